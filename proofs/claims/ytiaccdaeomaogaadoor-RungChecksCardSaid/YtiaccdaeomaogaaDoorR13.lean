/- Texts of one claim, slimmed and merged by slim.py. -/
import Derived.Test.YtiaccdaeomaogaaDoorR4
import Derived.Test.YtiaccdaeomaogaaDoorR5
import Derived.Test.YtiaccdaeomaogaaDoorR11
import Derived.Test.YtiaccdaeomaogaaDoorR12
namespace Go.Proofs.YtiaccdaeomaogaaDoor.F
open Go.RowKit Go.Proofs.YtiaccdaeomaogaaDoorW.PrintWords Go.Proofs.YtiaccdaeomaogaaDoorW.PrintLast Go.Proofs.YtiaccdaeomaogaaDoorW.PrintMore
set_option linter.unusedVariables false
set_option linter.unusedSimpArgs false
def Tot {α : Type} (F : Nat → Option α) (v : α) : Prop := ∃ K, ∀ k, K ≤ k → F k = some v
theorem Tot.const {α : Type} (v : α) : Tot (fun _ => some v) v := ⟨0, fun _ _ => rfl⟩
theorem Tot.succ {α : Type} {F : Nat → Option α} {v : α} (h : Tot (fun k => F (k + 1)) v) : Tot F v := by
  obtain ⟨K, hK⟩ := h
  refine ⟨K + 1, fun k hk => ?_⟩
  obtain ⟨j, rfl⟩ : ∃ j, k = j + 1 := ⟨k - 1, by omega⟩
  exact hK j (by omega)
theorem Tot.bind {α β : Type} {F : Nat → Option α} {G : Nat → α → Option β} {a : α} {b : β} (hF : Tot F a) (hG : Tot (fun k => G k a) b) : Tot (fun k => (F k).bind (G k)) b := by
  obtain ⟨K, hK⟩ := hF
  obtain ⟨L, hL⟩ := hG
  refine ⟨max K L, fun k hk => ?_⟩
  show (F k).bind (G k) = some b
  rw [hK k (by omega)]
  exact hL k (by omega)
theorem Tot.uniq {α : Type} {F : Nat → Option α} {a b : α} (h : Tot F a) (g : Tot F b) : a = b := by
  obtain ⟨K, hK⟩ := h
  obtain ⟨L, hL⟩ := g
  exact Option.some.inj ((hK (max K L) (by omega)).symm.trans (hL (max K L) (by omega)))
theorem w1 {x : Int} (h : 0 ≤ x) (g : x < 9223372036854775807) : wrap64 (x + 1) = x + 1 := by unfold wrap64; omega
theorem I64.w (x : Int) : I64 (wrap64 x) := by unfold I64 wrap64; omega
def ixF : List ByteArray → ByteArray → Int → Int
  | [], _, _ => -1
  | y :: ys, x, i => if x.toList = y.toList then i else ixF ys x (i + 1)
theorem drop_rd {α : Type} (d : α) {l : List α} {i : Nat} (h : i < l.length) : l.drop i = rdOf d l (i : Int) :: l.drop (i + 1) := by
  rw [List.drop_eq_getElem_cons h]
  unfold rdOf; rw [Int.toNat_natCast, List.getD, List.getElem?_eq_getElem h]; rfl
theorem Index_l0 (l : List ByteArray) (x : ByteArray) (hl : l.length < 9223372036854775807) : ∀ (n i : Nat), i + n = l.length → Tot (fun k => slices_Index_string_string.l0 k l x (l.length : Int) (i : Int)) (ixF (l.drop i) x (i : Int))
  | 0, i, e => by
    refine Tot.succ ?_
    simp only [slices_Index_string_string.l0]
    rw [List.drop_eq_nil_of_le (by omega)]
    simp only [if_neg (show ¬ (i : Int) < (l.length : Int) by omega), ixF]
    exact Tot.const _
  | n + 1, i, e => by
    refine Tot.succ ?_
    simp only [slices_Index_string_string.l0]
    rw [drop_rd ByteArray.empty (show i < l.length by omega)]
    simp only [if_pos (show (i : Int) < (l.length : Int) by omega), if_pos (show 0 ≤ (i : Int) by omega), ixF]
    by_cases h : x.toList = (rdOf ByteArray.empty l (i : Int)).toList
    · simp only [if_pos h]; exact Tot.const _
    · simp only [if_neg h, w1 (show 0 ≤ (i : Int) by omega) (show (i : Int) < 9223372036854775807 by omega)]
      exact Index_l0 l x hl n (i + 1) (by omega)
theorem Index_tot (l : List ByteArray) (x : ByteArray) (hl : l.length < 9223372036854775807) : Tot (fun k => slices_Index_string_string.f k l x) (ixF l x 0) := Index_l0 l x hl l.length 0 (by omega)
theorem Contains_tot (l : List ByteArray) (x : ByteArray) (hl : l.length < 9223372036854775807) : Tot (fun k => slices_Contains_string_string.f k l x) (decide (ixF l x 0 ≥ 0)) :=
  Tot.bind (Index_tot l x hl) (Tot.const _)
def onceP (l : List ByteArray) (a : ByteArray) : List ByteArray := if 0 ≤ ixF l a 0 then l else l ++ [a]
theorem once_tot (l : List ByteArray) (a : ByteArray) (hl : l.length < 8796093022208) : Tot (fun k => rung_once.f k l a) (onceP l a) := by
  refine Tot.bind (Contains_tot l a (by omega)) ?_
  unfold onceP
  by_cases h : 0 ≤ ixF l a 0
  · simp only [ge_iff_le, h, decide_true, if_true]; exact Tot.const _
  · simp only [ge_iff_le, h, decide_false, if_neg (show ¬ (false = true) by decide), if_pos hl, if_false]; exact Tot.const _
theorem onceP_len (l : List ByteArray) (a : ByteArray) : (onceP l a).length ≤ l.length + 1 ∧ l.length ≤ (onceP l a).length := by
  unfold onceP; split <;> simp
theorem Name_tot (a : ByteArray) (h : a.size < 9223372036854775807) : ∃ b, lex_Name.f a = some b := by
  unfold lex_Name.f utf8_ValidString.f utf8_RuneCountInString.f lex_wordy.f
  simp only [if_pos h, Option.bind_some]
  by_cases h1 : Lib.validD a.data.toList = true
  · rw [if_pos h1]
    by_cases h2 : (wordyFrom a a.size 0 && !a.toList.isEmpty) = true
    · rw [if_pos h2]
      have h3 : 0 < (a.size : Int) := by
        have h4 := (Bool.and_eq_true _ _ ▸ h2).2
        by_cases h5 : a.size = 0
        · have : a.toList = [] := by rw [Lib.toList_data]; exact List.length_eq_zero_iff.mp (by simpa using h5)
          rw [this] at h4; cases h4
        · omega
      rw [if_pos h3]
      by_cases h6 : bt a 0 < 48
      · rw [if_pos h6]; exact ⟨_, rfl⟩
      · rw [if_neg h6]; split <;> exact ⟨_, rfl⟩
    · rw [if_neg h2]; exact ⟨_, rfl⟩
  · rw [if_neg h1]; exact ⟨_, rfl⟩
inductive OkE : S34 → Prop
  | mk (x : S34) (h1 : I64 x.f1) (h2 : x.f2.size ≤ 200) (h3 : x.f3.length ≤ 200) (h4 : ∀ y, y ∈ x.f3 → OkE y) : OkE x
inductive OkI : S34 → Prop
  | mk (x : S34) (h1 : I64 x.f1) (h4 : ∀ y, y ∈ x.f3 → OkI y) : OkI x
theorem rd_mem {l : List S34} {i : Nat} (h : i < l.length) : rd_T34 l (i : Int) ∈ l := by
  unfold rd_T34; rw [Int.toNat_natCast, List.getD, List.getElem?_eq_getElem h]; exact List.getElem_mem h
theorem drop34 {l : List S34} {i : Nat} (h : i < l.length) : l.drop i = rd_T34 l (i : Int) :: l.drop (i + 1) := by
  rw [List.drop_eq_getElem_cons h]
  unfold rd_T34; rw [Int.toNat_natCast, List.getD, List.getElem?_eq_getElem h]; rfl
theorem Weight_tot {x : S34} (h : OkI x) : ∀ b : Int, 0 ≤ b → b ≤ 200 → ∃ t, Tot (fun k => malthouseref02_Weight.f k x.f0 x.f1 x.f2 x.f3 b) t ∧ 0 ≤ t ∧ t ≤ b ∧ (t ≠ 0 → OkE x) := by
  induction h with
  | mk x h1 h4 ih =>
  intro b hb0 hb
  by_cases hl : (x.f3.length : Int) > b
  · refine ⟨0, Tot.succ ?_, by omega, by omega, fun h => absurd rfl h⟩
    simp only [malthouseref02_Weight.f, if_pos hl]
    refine Tot.succ ?_
    simp only [malthouseref02_Weight.j0, if_true]; exact Tot.const _
  by_cases hs : (x.f2.size : Int) > 200
  · refine ⟨0, Tot.succ ?_, by omega, by omega, fun h => absurd rfl h⟩
    simp only [malthouseref02_Weight.f, if_neg hl, hs, decide_true]
    refine Tot.succ ?_
    simp only [malthouseref02_Weight.j0, if_true]; exact Tot.const _
  have hw : ∀ y : Int, 0 ≤ y → y ≤ 200 → wrap64 (y - 1) = y - 1 := fun y h g => by unfold wrap64; omega
  have L : ∀ (n i : Nat) (x1 : Int), i + n = x.f3.length → -1 ≤ x1 → x1 ≤ 200 → ∃ t, Tot (fun k => malthouseref02_Weight.l0 k x1 (i : Int) x.f0 x.f1 x.f2 x.f3) t ∧ 0 ≤ t ∧ (0 ≤ x1 → t ≤ x1) ∧ (x1 < 0 → t = 0) ∧ (t ≠ 0 → ∀ y ∈ x.f3.drop i, OkE y) := by
    intro n
    induction n with
    | zero =>
      intro i x1 e g1 g2
      refine ⟨if x1 < 0 then 0 else x1, Tot.succ ?_, by split <;> omega, fun h => by split <;> omega, fun h => by rw [if_pos h], fun _ y hy => by rw [List.drop_eq_nil_of_le (by omega)] at hy; cases hy⟩
      simp only [malthouseref02_Weight.l0, if_neg (show ¬ (i : Int) < (x.f3.length : Int) by omega)]
      split <;> exact Tot.const _
    | succ n ihn =>
      intro i x1 e g1 g2
      by_cases hx : x1 > 0
      · obtain ⟨t, ht, t0, tb, tk⟩ := ih _ (rd_mem (show i < x.f3.length by omega)) x1 (by omega) g2
        obtain ⟨t', ht', t0', tb', tn', tk'⟩ := ihn (i + 1) t (by omega) (by omega) (by omega)
        refine ⟨t', Tot.succ ?_, t0', fun _ => by have := tb' t0; omega, fun h => by omega, fun hne y hy => ?_⟩
        · simp only [malthouseref02_Weight.l0, if_pos (show (i : Int) < (x.f3.length : Int) by omega), if_pos hx, if_pos (show 0 ≤ (i : Int) by omega), w1 (show 0 ≤ (i : Int) by omega) (show (i : Int) < 9223372036854775807 by omega)]
          exact Tot.bind ht ht'
        · rw [drop34 (show i < x.f3.length by omega)] at hy
          rcases List.mem_cons.mp hy with rfl | hy
          · refine tk (fun e => hne ?_)
            have := tb' t0; omega
          · exact tk' hne y hy
      · refine ⟨0, Tot.succ ?_, by omega, fun h => by omega, fun _ => rfl, fun h => absurd rfl h⟩
        simp only [malthouseref02_Weight.l0, if_pos (show (i : Int) < (x.f3.length : Int) by omega), if_neg hx]
        by_cases h0 : x1 < 0
        · simp only [if_pos h0]; exact Tot.const _
        · simp only [if_neg h0]
          obtain rfl : x1 = 0 := by omega
          exact Tot.const _
  obtain ⟨t, ht, t0, tb, tn, tk⟩ := L x.f3.length 0 (b - 1) (by omega) (by omega) (by omega)
  refine ⟨t, Tot.succ ?_, t0, by by_cases h : 0 ≤ b - 1; have := tb h; omega; have := tn (by omega); omega, fun hne => OkE.mk x h1 (by omega) (by omega) (fun y hy => tk hne y (by rwa [List.drop_zero]))⟩
  simp only [malthouseref02_Weight.f, if_neg hl, hs, decide_false]
  refine Tot.succ ?_
  simp only [malthouseref02_Weight.j0, if_neg (show ¬ (false = true) by decide), hw b hb0 hb]
  exact ht
theorem truth_tot (b : Bool) : ∃ t, expr_truth.f b = some t ∧ I64 t := by
  unfold expr_truth.f; split
  · exact ⟨1, rfl, by decide⟩
  · exact ⟨0, rfl, by decide⟩
theorem minus_tot (a b : Int) : ∃ p, expr_minus.f a b = some p ∧ I64 p.1 := by
  unfold expr_minus.f; split
  · exact ⟨_, rfl, by decide⟩
  · exact ⟨_, rfl, I64.w _⟩
theorem plus_tot (a b : Int) : ∃ p, expr_plus.f a b = some p ∧ I64 p.1 := by
  unfold expr_plus.f; split
  · exact ⟨_, rfl, by decide⟩
  · exact ⟨_, rfl, I64.w _⟩
theorem tmod_I64 {a : Int} (b : Int) (h : I64 a) : I64 (Int.tmod a b) := by
  have h1 := Int.natAbs_tmod a b
  have h2 := Nat.mod_le a.natAbs b.natAbs
  unfold I64 at *
  rcases Int.le_total 0 a with h0 | h0
  · have := Int.tmod_nonneg b h0; omega
  · have h3 := Int.tmod_nonneg b (show 0 ≤ -a by omega)
    rw [Int.neg_tmod] at h3; omega
theorem divide_tot (op a b : Int) (ha : I64 a) : ∃ p, Tot (fun k => expr_divide.f k op a b) p ∧ I64 p.1 := by
  unfold expr_divide.f
  by_cases h0 : b = 0
  · simp only [if_pos h0]; exact ⟨_, Tot.const _, by decide⟩
  simp only [if_neg h0]
  have J : ∀ x11 : Bool, ∃ p, Tot (fun k => expr_divide.j0 k op a b x11) p ∧ I64 p.1 := by
    intro x11
    cases x11 with
    | true => exact ⟨(0, 0), Tot.succ (by simp only [expr_divide.j0, if_true]; exact Tot.const _), by decide⟩
    | false =>
      by_cases h8 : op = 8
      · exact ⟨_, Tot.succ (by simp only [expr_divide.j0, if_neg (show ¬ (false = true) by decide), if_pos h8, if_neg h0]; exact Tot.const _), tmod_I64 b ha⟩
      · by_cases hm : b = -1
        · obtain ⟨p, hp, ip⟩ := minus_tot 0 a
          exact ⟨_, Tot.succ (by simp only [expr_divide.j0, if_neg (show ¬ (false = true) by decide), if_neg h8, if_pos hm, hp, Option.bind_some]; exact Tot.const _), ip⟩
        · exact ⟨_, Tot.succ (by simp only [expr_divide.j0, if_neg (show ¬ (false = true) by decide), if_neg h8, if_neg hm, if_neg h0]; exact Tot.const _), I64.w _⟩
  split
  · exact J _
  · exact J _
theorem two_tot (op a b : Int) (ha : I64 a) (hb : I64 b) : ∃ p, Tot (fun k => expr_two.f k op a b) p ∧ I64 p.1 := by
  have T : ∀ c : Bool, ∃ p : Int × Int, Tot (fun _ => (expr_truth.f c).bind fun t => (some (t, (0 : Int)))) p ∧ I64 p.1 := fun c => by
    obtain ⟨t, ht, it⟩ := truth_tot c
    exact ⟨(t, 0), by simp only [ht, Option.bind_some]; exact Tot.const _, it⟩
  have J : ∀ (x8 : Int) (x30 : Bool), ∃ p, Tot (fun k => expr_two.j0 k op a b x8 x30) p ∧ I64 p.1 := by
    intro x8 x30
    suffices h : ∃ p, Tot (fun k => expr_two.j0 (k + 1) op a b x8 x30) p ∧ I64 p.1 by
      obtain ⟨p, hp, ip⟩ := h; exact ⟨p, Tot.succ hp, ip⟩
    simp only [expr_two.j0]
    cases x30 with
    | true =>
      obtain ⟨p, hp, ip⟩ := divide_tot op a b ha
      exact ⟨(p.1, p.2), Tot.bind hp (Tot.const _), ip⟩
    | false =>
      simp only [if_neg (show ¬ (false = true) by decide)]
      repeat' split
      all_goals exact T _
  unfold expr_two.f
  split
  · obtain ⟨p, hp, ip⟩ := plus_tot a b
    exact ⟨(p.1, p.2), by simp only [hp, Option.bind_some]; exact Tot.const _, ip⟩
  split
  · obtain ⟨p, hp, ip⟩ := minus_tot a b
    exact ⟨(p.1, p.2), by simp only [hp, Option.bind_some]; exact Tot.const _, ip⟩
  split
  · unfold expr_times.f
    simp only [if_pos (And.intro ha hb), Option.bind_some]
    refine ⟨_, Tot.const _, ?_⟩
    split
    · assumption
    · decide
  split
  · exact J _ _
  · exact J _ _
theorem line_tot (op : Int) : ∃ v, Tot (fun k => expr_line.f k op) v := by
  have J1 : ∀ b, ∃ v, Tot (fun k => expr_line.j1 k op b) v := fun b => by
    suffices h : ∃ v, Tot (fun k => expr_line.j1 (k + 1) op b) v by obtain ⟨v, h⟩ := h; exact ⟨v, Tot.succ h⟩
    simp only [expr_line.j1]
    repeat' split
    all_goals exact ⟨_, Tot.const _⟩
  have J0 : ∀ b, ∃ v, Tot (fun k => expr_line.j0 k op b) v := fun b => by
    suffices h : ∃ v, Tot (fun k => expr_line.j0 (k + 1) op b) v by obtain ⟨v, h⟩ := h; exact ⟨v, Tot.succ h⟩
    simp only [expr_line.j0]
    repeat' split
    all_goals first | exact J1 _ | exact ⟨_, Tot.const _⟩
  unfold expr_line.f
  repeat' split
  all_goals first | exact J0 _ | exact ⟨_, Tot.const _⟩
theorem wrapped_tot (x : S34) (i : Nat) (hi : i < x.f3.length) : ∃ v, Tot (fun k => expr_wrapped.f k x.f0 x.f1 x.f2 x.f3 (i : Int)) v := by
  obtain ⟨v, hv⟩ := line_tot x.f0
  obtain ⟨u, hu⟩ := line_tot (rd_T34 x.f3 (i : Int)).f0
  have : ∃ b, Tot (fun _ : Nat => (if u < v then (some true) else (if u = v then (if v < 6 then (if (i : Int) = 1 then (some true) else (some (v == 3))) else (some false)) else (some false)) : Option Bool)) b := by
    repeat' split
    all_goals exact ⟨_, Tot.const _⟩
  obtain ⟨b, hb⟩ := this
  refine ⟨b, Tot.bind hv ?_⟩
  simp only [if_pos (show 0 ≤ (i : Int) by omega), if_pos (show (i : Int) < (x.f3.length : Int) by omega)]
  exact Tot.bind hu hb
def OkC (en : List S69) : Prop := ∀ c ∈ en, I64 c.f1
theorem OkC.rd {en : List S69} (h : OkC en) (i : Int) : I64 (rd_T69 en i).f1 := by
  unfold rd_T69
  rw [List.getD]
  cases e : en[i.toNat]? with
  | none => decide
  | some c => exact h c (List.mem_of_getElem? e)
def Nice (x : S34) (t : Int) : Prop :=
  (∀ acc : List ByteArray, (acc.length : Int) + t < 8796093022208 → ∃ l, Tot (fun k => namesF k x.f0 x.f2 x.f3 acc) l ∧ (l.length : Int) ≤ acc.length + t) ∧
  ∀ en, OkC en → ∃ p, Tot (fun k => expr_reckon.f k x.f0 x.f1 x.f2 x.f3 en) p ∧ I64 p.1
def NiceL (ks : List S34) (t : Int) : Prop :=
  (∀ acc : List ByteArray, (acc.length : Int) + t < 8796093022208 → ∃ l, Tot (fun k => namesL k ks acc) l ∧ (l.length : Int) ≤ acc.length + t) ∧
  ∀ x ∈ ks, ∀ en, OkC en → ∃ p, Tot (fun k => expr_reckon.f k x.f0 x.f1 x.f2 x.f3 en) p ∧ I64 p.1
theorem NiceL.nil {t : Int} (ht : 0 ≤ t) : NiceL [] t := ⟨fun acc _ => ⟨acc, Tot.succ (by simp only [namesL]; exact Tot.const _), by omega⟩, fun x hx => nomatch hx⟩
theorem NiceL.cons {x : S34} {ks : List S34} {s t u : Int} (h : Nice x s) (g : NiceL ks t) (hs : 0 ≤ s) (ht : 0 ≤ t) (hu : s + t ≤ u) : NiceL (x :: ks) u := by
  refine ⟨fun acc ha => ?_, fun y hy => ?_⟩
  · obtain ⟨l, hl, ll⟩ := h.1 acc (by omega)
    obtain ⟨m, hm, lm⟩ := g.1 l (by omega)
    exact ⟨m, Tot.succ (by simp only [namesL]; exact Tot.bind hl hm), by omega⟩
  · rcases List.mem_cons.mp hy with rfl | hy
    · exact h.2
    · exact g.2 y hy
theorem I64.zero : I64 0 := by decide
theorem nameTok (x : S34) (h : x.f2.size ≤ 200) (hop : x.f0 = 1) : ∃ t : Int, Tot (fun _ : Nat => ((lex_Name.f x.f2).bind fun t102 => (if t102 = true then (some 1) else (some (-1))) : Option Int)) t ∧ (t = -1 ∨ (1 ≤ t ∧ t ≤ 65 ∧ Nice x t)) := by
  obtain ⟨b, hb⟩ := Name_tot x.f2 (by omega)
  simp only [hb, Option.bind_some]
  cases b with
  | true =>
    refine ⟨1, Tot.const _, .inr ⟨by omega, by omega, fun acc ha => ?_, fun en he => ?_⟩⟩
    · refine ⟨acc ++ [x.f2], Tot.succ ?_, by simp⟩
      simp only [namesF, if_pos hop, if_pos (show acc.length < 8796093022208 by omega)]
      exact Tot.const _
    · have hi := he.rd (idxC x.f2 en)
      by_cases hj : idxC x.f2 en < 0
      · refine ⟨(0, 21), Tot.succ ?_, by decide⟩
        simp only [expr_reckon.f, if_neg (show ¬ x.f0 = 0 by omega), if_pos hop, expr_cell.f, if_pos hj, Option.bind_some, if_neg (show ¬ (false = true) by decide)]
        exact Tot.const _
      · refine ⟨((rd_T69 en (idxC x.f2 en)).f1, 0), Tot.succ ?_, hi⟩
        simp only [expr_reckon.f, if_neg (show ¬ x.f0 = 0 by omega), if_pos hop, expr_cell.f, if_neg hj, Option.bind_some, if_true]
        exact Tot.const _
  | false => exact ⟨-1, Tot.const _, .inl rfl⟩
theorem num_nice (x : S34) (h1 : I64 x.f1) (hk : x.f3 = []) (hop : x.f0 = 0) : Nice x 1 := by
  refine ⟨fun acc ha => ⟨acc, Tot.succ ?_, by omega⟩, fun en he => ⟨(x.f1, 0), Tot.succ ?_, h1⟩⟩
  · simp only [namesF, if_neg (show ¬ x.f0 = 1 by omega), hk]
    exact Tot.succ (by simp only [namesL]; exact Tot.const _)
  · simp only [expr_reckon.f, if_pos hop]; exact Tot.const _
theorem node_nice (x : S34) {t : Int} (h0 : x.f0 ≠ 0) (h1 : x.f0 ≠ 1) (hl : 0 < x.f3.length) (h2 : x.f0 ≠ 2 → x.f0 ≠ 3 → 1 < x.f3.length) (h : NiceL x.f3 t) : Nice x t := by
  refine ⟨fun acc ha => ?_, fun en he => ?_⟩
  · obtain ⟨l, hl, ll⟩ := h.1 acc ha
    exact ⟨l, Tot.succ (by simp only [namesF, if_neg h1]; exact hl), ll⟩
  · obtain ⟨p, hp, ip⟩ := h.2 _ (rd_mem hl) en he
    suffices h : ∃ q, Tot (fun k => expr_reckon.f (k + 1) x.f0 x.f1 x.f2 x.f3 en) q ∧ I64 q.1 by
      obtain ⟨q, hq, iq⟩ := h; exact ⟨q, Tot.succ hq, iq⟩
    simp only [expr_reckon.f, if_neg h0, if_neg h1, if_pos (show (0 : Int) < (x.f3.length : Int) by omega)]
    by_cases hp2 : p.2 = 0
    · by_cases o2 : x.f0 = 2
      · obtain ⟨q, hq, iq⟩ := minus_tot 0 p.1
        exact ⟨(q.1, q.2), Tot.bind hp (by simp only [if_pos hp2, if_pos o2, hq, Option.bind_some]; exact Tot.const _), iq⟩
      by_cases o3 : x.f0 = 3
      · obtain ⟨q, hq, iq⟩ := truth_tot (p.1 == 0)
        exact ⟨(q, 0), Tot.bind hp (by simp only [if_pos hp2, if_neg o2, if_pos o3, hq, Option.bind_some]; exact Tot.const _), iq⟩
      obtain ⟨q, hq, iq⟩ := h.2 _ (rd_mem (h2 o2 o3)) en he
      by_cases hq2 : q.2 = 0
      · obtain ⟨r, hr, ir⟩ := two_tot x.f0 p.1 q.1 ip iq
        refine ⟨(r.1, r.2), Tot.bind hp ?_, ir⟩
        simp only [if_pos hp2, if_neg o2, if_neg o3, if_pos (show (1 : Int) < (x.f3.length : Int) by have := h2 o2 o3; omega)]
        refine Tot.bind hq ?_
        simp only [if_pos hq2]
        exact Tot.bind hr (Tot.const _)
      · refine ⟨(0, q.2), Tot.bind hp ?_, I64.zero⟩
        simp only [if_pos hp2, if_neg o2, if_neg o3, if_pos (show (1 : Int) < (x.f3.length : Int) by have := h2 o2 o3; omega)]
        refine Tot.bind hq ?_
        simp only [if_neg hq2]
        exact Tot.const _
    · exact ⟨(0, p.2), Tot.bind hp (by simp only [if_neg hp2]; exact Tot.const _), I64.zero⟩
theorem tokens_tot {x : S34} (h : OkE x) : ∀ b : Int, 0 ≤ b → b ≤ 64 → ∃ t, Tot (fun k => expr_tokens.f k x.f0 x.f1 x.f2 x.f3 b) t ∧ (t = -1 ∨ (1 ≤ t ∧ t ≤ 65 ∧ Nice x t)) := by
  induction h with
  | mk x h1 h2 h3 h4 ih =>
  intro b hb0 hb
  -- the loop
  have L : ∀ (n i : Nat) (x6 : Int), i + n = x.f3.length → 1 ≤ x6 → x6 ≤ b → ∃ t, Tot (fun k => expr_tokens.l0 k b x6 x.f3 (x.f3.length : Int) (i : Int) x.f0 x.f1 x.f2 x.f3) t ∧ (t = -1 ∨ (x6 ≤ t ∧ t ≤ b ∧ NiceL (x.f3.drop i) (t - x6))) := by
    intro n
    induction n with
    | zero =>
      intro i x6 e g1 g2
      refine ⟨x6, Tot.succ ?_, .inr ⟨by omega, g2, ?_⟩⟩
      · simp only [expr_tokens.l0, if_neg (show ¬ (i : Int) < (x.f3.length : Int) by omega)]; exact Tot.const _
      · rw [List.drop_eq_nil_of_le (by omega)]; exact NiceL.nil (by omega)
    | succ n ihn =>
      intro i x6 e g1 g2
      have hi : i < x.f3.length := by omega
      have hw : wrap64 (b - x6) = b - x6 := by unfold wrap64; omega
      obtain ⟨t, ht, tk⟩ := ih _ (rd_mem hi) (b - x6) (by omega) (by omega)
      obtain ⟨v, hv⟩ := wrapped_tot x i hi
      suffices hs : ∃ t, Tot (fun k => expr_tokens.l0 (k + 1) b x6 x.f3 (x.f3.length : Int) (i : Int) x.f0 x.f1 x.f2 x.f3) t ∧ (t = -1 ∨ (x6 ≤ t ∧ t ≤ b ∧ NiceL (x.f3.drop i) (t - x6))) by
        obtain ⟨t, h1, h2⟩ := hs; exact ⟨t, Tot.succ h1, h2⟩
      simp only [expr_tokens.l0, if_pos (show (i : Int) < (x.f3.length : Int) by omega), if_pos (show 0 ≤ (i : Int) by omega), hw, w1 (show 0 ≤ (i : Int) by omega) (show (i : Int) < 9223372036854775807 by omega)]
      rcases tk with rfl | ⟨t1, t2, tn⟩
      · exact ⟨-1, Tot.bind ht (by simp only [if_pos (show (-1 : Int) < 0 by decide)]; exact Tot.const _), .inl rfl⟩
      · have w2 : wrap64 (x6 + t) = x6 + t := by unfold wrap64; omega
        have w3 : wrap64 (x6 + t + 2) = x6 + t + 2 := by unfold wrap64; omega
        cases v with
        | true =>
          by_cases hc : x6 + t + 2 > b
          · exact ⟨-1, Tot.bind ht (by simp only [if_neg (show ¬ t < 0 by omega)]; exact Tot.bind hv (by simp only [if_true, w2, w3, if_pos hc]; exact Tot.const _)), .inl rfl⟩
          · obtain ⟨u, hu, uk⟩ := ihn (i + 1) (x6 + t + 2) (by omega) (by omega) (by omega)
            refine ⟨u, Tot.bind ht (by simp only [if_neg (show ¬ t < 0 by omega)]; exact Tot.bind hv (by simp only [if_true, w2, w3, if_neg hc]; exact hu)), ?_⟩
            rcases uk with rfl | ⟨u1, u2, un⟩
            · exact .inl rfl
            · exact .inr ⟨by omega, u2, by rw [drop34 hi]; exact NiceL.cons tn un (by omega) (by omega) (by omega)⟩
        | false =>
          by_cases hc : x6 + t > b
          · exact ⟨-1, Tot.bind ht (by simp only [if_neg (show ¬ t < 0 by omega)]; exact Tot.bind hv (by simp only [if_neg (show ¬ (false = true) by decide), w2, if_pos hc]; exact Tot.const _)), .inl rfl⟩
          · obtain ⟨u, hu, uk⟩ := ihn (i + 1) (x6 + t) (by omega) (by omega) (by omega)
            refine ⟨u, Tot.bind ht (by simp only [if_neg (show ¬ t < 0 by omega)]; exact Tot.bind hv (by simp only [if_neg (show ¬ (false = true) by decide), w2, if_neg hc]; exact hu)), ?_⟩
            rcases uk with rfl | ⟨u1, u2, un⟩
            · exact .inl rfl
            · exact .inr ⟨by omega, u2, by rw [drop34 hi]; exact NiceL.cons tn un (by omega) (by omega) (by omega)⟩
  have F1 : Tot (fun k => expr_tokens.j2 k b true x.f0 x.f1 x.f2 x.f3) (-1) := Tot.succ (by simp only [expr_tokens.j2, if_true]; exact Tot.const _)
  by_cases o0 : x.f0 = 0
  · -- a number
    suffices hs : ∃ t, Tot (fun k => expr_tokens.j0 (k + 1) b 2 x.f0 true x.f0 x.f1 x.f2 x.f3) t ∧ (t = -1 ∨ (1 ≤ t ∧ t ≤ 65 ∧ Nice x t)) by
      obtain ⟨t, h1, h2⟩ := hs
      refine ⟨t, Tot.succ ?_, h2⟩
      simp only [expr_tokens.f, if_pos o0, show (x.f0 == 0) = true by simp [o0]]
      exact Tot.succ h1
    simp only [expr_tokens.j0, if_true, if_pos o0, if_neg (show ¬ x.f0 = 1 by omega)]
    by_cases hk : (x.f3.length : Int) > 0
    · simp only [if_pos hk]; exact ⟨-1, Tot.const _, .inl rfl⟩
    · simp only [if_neg hk]
      split
      · exact ⟨-1, Tot.const _, .inl rfl⟩
      · split
        · exact ⟨1, Tot.const _, .inr ⟨by omega, by omega, num_nice x h1 (List.length_eq_zero_iff.mp (by omega)) o0⟩⟩
        · exact ⟨-1, Tot.const _, .inl rfl⟩
  by_cases o1 : x.f0 = 1
  · suffices hs : ∃ t, Tot (fun k => expr_tokens.j0 (k + 1) b 2 x.f0 true x.f0 x.f1 x.f2 x.f3) t ∧ (t = -1 ∨ (1 ≤ t ∧ t ≤ 65 ∧ Nice x t)) by
      obtain ⟨t, h1, h2⟩ := hs
      refine ⟨t, Tot.succ ?_, h2⟩
      simp only [expr_tokens.f, if_neg o0, show (x.f0 == 1) = true by simp [o1]]
      exact Tot.succ h1
    simp only [expr_tokens.j0, if_true, if_neg o0, if_pos o1]
    split
    · exact ⟨-1, Tot.const _, .inl rfl⟩
    · split
      · exact nameTok x h2 o1
      · exact ⟨-1, Tot.const _, .inl rfl⟩
  -- an operator
  have J1 : ∀ x5 : Int, (x5 = 2 ∨ x5 = 1 ∧ (x.f0 = 2 ∨ x.f0 = 3)) → ∃ t, Tot (fun k => expr_tokens.j1 k b x5 x.f0 x.f1 x.f2 x.f3) t ∧ (t = -1 ∨ (1 ≤ t ∧ t ≤ 65 ∧ Nice x t)) := by
    intro x5 h5
    suffices hs : ∃ t, Tot (fun k => expr_tokens.j1 (k + 1) b x5 x.f0 x.f1 x.f2 x.f3) t ∧ (t = -1 ∨ (1 ≤ t ∧ t ≤ 65 ∧ Nice x t)) by
      obtain ⟨t, h1, h2⟩ := hs; exact ⟨t, Tot.succ h1, h2⟩
    simp only [expr_tokens.j1]
    split
    · exact ⟨-1, F1, .inl rfl⟩
    split
    · exact ⟨-1, F1, .inl rfl⟩
    split
    · split
      · split
        · rename_i hx5
          by_cases hb1 : b < 1
          · simp only [hb1, decide_true]; exact ⟨-1, F1, .inl rfl⟩
          · obtain ⟨t, ht, tk⟩ := L x.f3.length 0 1 (by omega) (by omega) (by omega)
            refine ⟨t, Tot.succ (by simp only [expr_tokens.j2, hb1, decide_false, if_neg (show ¬ (false = true) by decide)]; exact ht), ?_⟩
            rcases tk with rfl | ⟨t1, t2, tn⟩
            · exact .inl rfl
            · rw [List.drop_zero] at tn
              refine .inr ⟨by omega, by omega, node_nice x o0 o1 (by omega) (fun g2 g3 => by omega) ⟨fun acc ha => ?_, tn.2⟩⟩
              obtain ⟨l, hl, ll⟩ := tn.1 acc (by omega)
              exact ⟨l, hl, by omega⟩
        · exact ⟨-1, F1, .inl rfl⟩
      · exact ⟨-1, F1, .inl rfl⟩
    · exact ⟨-1, F1, .inl rfl⟩
  suffices hs : ∃ t, Tot (fun k => expr_tokens.j0 (k + 1) b 2 x.f0 false x.f0 x.f1 x.f2 x.f3) t ∧ (t = -1 ∨ (1 ≤ t ∧ t ≤ 65 ∧ Nice x t)) by
    obtain ⟨t, h1, h2⟩ := hs
    refine ⟨t, Tot.succ ?_, h2⟩
    simp only [expr_tokens.f, if_neg o0, show (x.f0 == 1) = false by simp [o1]]
    exact Tot.succ h1
  simp only [expr_tokens.j0, if_neg (show ¬ (false = true) by decide)]
  by_cases o2 : x.f0 = 2
  · simp only [if_pos o2]; exact J1 1 (.inr ⟨rfl, .inl o2⟩)
  by_cases o3 : x.f0 = 3
  · simp only [if_neg o2, if_pos o3]; exact J1 1 (.inr ⟨rfl, .inr o3⟩)
  simp only [if_neg o2, if_neg o3]
  exact J1 2 (.inl rfl)
theorem May_tot {x : S34} (h : OkE x) : ∃ b, Tot (fun k => expr_May.f k x.f0 x.f1 x.f2 x.f3) b ∧ (b = true → Nice x 65) := by
  obtain ⟨t, ht, tk⟩ := tokens_tot h 64 (by omega) (by omega)
  by_cases h0 : t > 0
  · refine ⟨decide (t ≤ 64), Tot.bind ht (by simp only [if_pos h0]; exact Tot.const _), fun _ => ?_⟩
    rcases tk with rfl | ⟨t1, t2, tn⟩
    · omega
    · refine ⟨fun acc ha => ?_, tn.2⟩
      obtain ⟨l, hl, ll⟩ := tn.1 acc (by omega)
      exact ⟨l, hl, by omega⟩
  · exact ⟨false, Tot.bind ht (by simp only [if_neg h0]; exact Tot.const _), fun h => by cases h⟩
end Go.Proofs.YtiaccdaeomaogaaDoor.F
namespace Go.Proofs.YtiaccdaeomaogaaDoor.F
open Go.RowKit Go.Proofs.YtiaccdaeomaogaaDoorW.PrintWords Go.Proofs.YtiaccdaeomaogaaDoorW.PrintLast Go.Proofs.YtiaccdaeomaogaaDoorW.PrintMore
attribute [local go_sem] max2_int min2_int max_two min_two max_three min_three max_four min_four   -- for this text's walks alone
set_option linter.unusedVariables false
set_option linter.unusedSimpArgs false
def rung_Bits.l0 : Nat → List ByteArray → List (S43) → Int → Int → Option (List ByteArray)
  | 0, _, _, _, _ => none
  | k + 1, x3, x6, x7, x8 => if x8 < x7 then (if 0 ≤ x8 then (if x8 < (x6.length : Int) then (if ((rd_T43 x6 x8).f0) ≥ 0 then (if ((rd_T43 x6 x8).f0) ≤ 2 then ((rung_once.f k x3 ((rd_T43 x6 x8).f1)).bind fun t103 => (rung_Bits.l0 k t103 x6 x7 (wrap64 (x8 + 1)))) else (rung_Bits.l0 k x3 x6 x7 (wrap64 (x8 + 1)))) else (rung_Bits.l0 k x3 x6 x7 (wrap64 (x8 + 1)))) else (none)) else (none)) else (some x3)
def rung_Bits.f (k : Nat) (l0 : List (S43)) : Option (List ByteArray) := rung_Bits.l0 k ([] : List ByteArray) l0 (l0.length : Int) 0
theorem rung_Bits.mono_l : ∀ k, (∀ y0 y1 y2 y3, LeO (rung_Bits.l0 k y0 y1 y2 y3) (rung_Bits.l0 (k + 1) y0 y1 y2 y3))
  | 0 => fun _ _ _ _ r h => by simp [rung_Bits.l0] at h
  | k + 1 => by
    have ih0 := rung_Bits.mono_l k
    intro y0 y1 y2 y3
    unfold rung_Bits.l0
    repeat' first
    | (with_reducible exact ih0 _ _ _ _)
    | (with_reducible exact rung_once.mono _ _ _)
    | (with_reducible exact LeO.refl _)
    | (with_reducible exact LeO.none _)
    | (with_reducible refine LeO.ite ?_ ?_)
    | (with_reducible refine LeO.bind ?_ (fun _ => ?_))
    | exact ih0 _ _ _ _
    | exact rung_once.mono _ _ _
    | exact LeO.none _
    | refine LeO.ite ?_ ?_
    | refine LeO.bind ?_ (fun _ => ?_)
theorem rung_Bits.mono : ∀ a0 k, LeO (rung_Bits.f k a0) (rung_Bits.f (k + 1) a0) := by
  intro a0 k
  have ih0 := rung_Bits.mono_l k
  unfold rung_Bits.f
  repeat' first
      | (with_reducible exact ih0 _ _ _ _)
      | (with_reducible exact rung_once.mono _ _ _)
      | (with_reducible exact LeO.refl _)
      | (with_reducible exact LeO.none _)
      | (with_reducible refine LeO.ite ?_ ?_)
      | (with_reducible refine LeO.bind ?_ (fun _ => ?_))
      | exact ih0 _ _ _ _
      | exact rung_once.mono _ _ _
      | exact LeO.none _
      | refine LeO.ite ?_ ?_
      | refine LeO.bind ?_ (fun _ => ?_)
set_option maxHeartbeats 8000000 in
set_option maxRecDepth 100000 in
theorem rung_Bits.calls (k : Nat) (A0 : Option Addr) (c0 : Nat) (l0 : List (S43)) (r : List ByteArray) (w : World) (hr0 : Kd.C k43 w A0 l0.length l0) (hc0 : l0.length ≤ c0) (h : rung_Bits.f k l0 = some r) :
    Calls Tryd.prog 23 #[.slice A0 l0.length c0] w fun e w' => ∃ v0_ : Value, e = .returned (v0_) ∧ Kd.R Kd.string 9 w' w.heap.size (fun _ => True) v0_ r ∧ Below w.heap.size w w' := by
  have hu43 := Tryd.underlying43
  have HR0 := Aside0.mk hr0
  have HC0 := Aside0.mk hc0
  clear hr0 hc0
  have HB := Aside0.mk (Below.refl w.heap.size w)
  have H : (rung_Bits.l0 k ([] : List ByteArray) l0 (l0.length : Int) 0) = some r := h
  clear h
  have H' := Aside0.mk H
  clear H
  go_enter Tryd.func23, Tryd.ntmps23
  go_wp2
  go_loopg [3, 8] k (fun kq v3 v8 w' => ∃ (x3_1 : List ByteArray) (x8_1 : Int), v8 = .int .i64 x8_1 ∧ Aside0 (rung_Bits.l0 kq x3_1 l0 (l0.length : Int) x8_1 = some r) ∧ Aside0 (kq ≤ k) ∧ Aside0 (Kd.R Kd.string 9 w' w.heap.size (fun _ => True) v3 x3_1) ∧ Aside0 (Below w.heap.size w w'))
  case atStart => exact ⟨(([] : List ByteArray)), (0), qv, H', ⟨Nat.le_refl _⟩, ⟨by first | exact Kd.R_nil _ _ _ _ _ | exact Kd.N_nil _ _ _ _ _ | exact Kd.V_nil _ _ _ _ _ | exact Kd.Q_nil _ _ _ _ _ | exact Kd.S_nil _ _ _ _ _⟩, qB⟩
  case round =>
    clear H'
    obtain ⟨x3_1, x8_1, rfl, HA, HK1, HO_3, HB⟩ := hrel
    cases gk with
    | zero => exact absurd HA.out (by simp [rung_Bits.l0])
    | succ k1 =>
      have H := HA.out
      clear HA
      simp only [rung_Bits.l0] at H
      by_cases c2 : x8_1 < (l0.length : Int)
      · rw [if_pos c2] at H
        have c2b0 : decide (x8_1 < (l0.length : Int)) = true := decide_eq_true c2
        clear c2
        by_cases c3 : 0 ≤ x8_1
        · rw [if_pos c3] at H
          have c3b0 : decide (0 ≤ x8_1) = true := decide_eq_true c3
          clear c3
          by_cases c4 : x8_1 < (l0.length : Int)
          · rw [if_pos c4] at H
            have c4b0 : decide (x8_1 < (l0.length : Int)) = true := decide_eq_true c4
            clear c4
            by_cases c5 : ((rd_T43 l0 x8_1).f0) ≥ 0
            · rw [if_pos c5] at H
              have c5b0 : decide (0 ≤ ((rd_T43 l0 x8_1).f0)) = true := decide_eq_true c5
              clear c5
              by_cases c6 : ((rd_T43 l0 x8_1).f0) ≤ 2
              · rw [if_pos c6] at H
                have c6b0 : decide (((rd_T43 l0 x8_1).f0) ≤ 2) = true := decide_eq_true c6
                clear c6
                replace H := qi H
                obtain ⟨t103, A7, H⟩ := H
                have H' := Aside0.mk H
                clear H
                have p101 : 0 ≤ (x8_1 : Int) := qa
                have q101 : x8_1 < (l0.length : Int) := qa
                obtain ⟨ad101, A101_2, c101_2, e101, hx101_0, hx101_1, hx101_2, hl101_2, hi101_2⟩ := at_T43 HR0.out x8_1 p101 q101
                cases e101
                replace hx101_0 := qc HB.out hx101_0
                replace hx101_1 := qc HB.out hx101_1
                replace hx101_2 := qc HB.out hx101_2
                have HR101_2 := Aside0.mk hi101_2
                have HC101_2 := Aside0.mk hl101_2
                clear hi101_2 hl101_2
                replace p101 := eq_true p101
                replace q101 := eq_true q101
                go_wp2_with (first | ((with_reducible refine gate_dst (N := 5) rfl ?_); refine box_event ?hg (N := 5) ?hd (cs := #[.int .i64 0, .string (⟨#[]⟩ : ByteArray), .slice none 0 0]) (t := 43) ?hr ?_; (case hd => rfl); (case hg => rfl); (case hr => first | (go_simp; done) | (go_simp; rfl)); intro gb102 hg w8 hbox hb; have n0_ := Aside0.mk (Kd.R_below (by (with_reducible repeat (first | apply Kd.R_alloc | apply Kd.R_drewN | apply Kd.R_drew)); exact HO_3.out) hb); have n1_ := qs hb; have n2_ := Aside0.mk (hbox); have n3_ := Aside0.mk ((by rw [hg]; exact (below_size qb) : w.heap.size ≤ gb102)); have n4_ := Aside0.mk ((by rw [hg]; exact (below_size qb) : w.heap.size ≤ gb102)); clear HO_3; clear HB; have HO_3 := n0_; have HB := n1_; have BK102 := n2_; have GW102 := n3_; have GE102 := n4_; clear n0_ n1_ n2_ n3_ n4_; clear hb hbox hg; obtain ⟨_, _, _, _, _, _⟩ := q3 BK102.out) | ((with_reducible refine gate_store (t := 43) (p := 5) rfl ?_); refine store_event (t := 43) (p := 5) (v := ?vo_w10) (w1 := (((w8.setCell ⟨gb102, 0, none⟩ (.int .i64 ((rd_T43 l0 x8_1).f0))).setCell ⟨gb102, 1, none⟩ (.string ((rd_T43 l0 x8_1).f1))).setCell ⟨gb102, 2, none⟩ (.slice A101_2 ((rd_T43 l0 x8_1).f2).length c101_2))) ?hg ?ho ?hn ?hr ?_; (case ho => rfl); (case hg => rfl); (case hn => rfl); (case hr => first | (go_simp; done) | (go_simp; rfl)); intro w10 hw; have n0_ : Aside0 (Kd.R Kd.string 9 w10 w.heap.size (fun _ => True) u3 x3_1) := ⟨(by rw [hw]; exact (by (with_reducible repeat (first | apply Kd.R_alloc | apply Kd.R_drewN | apply Kd.R_drew)); exact Kd.R_mono (Kd.R_far (p := ⟨gb102, 2, none⟩) (Kd.R_far (p := ⟨gb102, 1, none⟩) (Kd.R_far (p := ⟨gb102, 0, none⟩) (Kd.R_types HO_3.out BK102.out (by decide)) (fun _ hk => hk.2) (.int .i64 ((rd_T43 l0 x8_1).f0))) (fun _ hk => hk.2) (.string ((rd_T43 l0 x8_1).f1))) (fun _ hk => hk.2) (.slice A101_2 ((rd_T43 l0 x8_1).f2).length c101_2)) (fun _ hk => trivial)))⟩; have n1_ : Aside0 (w10.heap[gb102]? = some (.cells #[.int .i64 ((rd_T43 l0 x8_1).f0), .string ((rd_T43 l0 x8_1).f1), .slice A101_2 ((rd_T43 l0 x8_1).f2).length c101_2] 43 (0, 0))) := ⟨(by rw [hw]; exact qy102)⟩; have n2_ : Aside0 (Below w.heap.size w w10) := ⟨(by rw [hw]; exact qb)⟩; clear hw; clear HO_3; clear BK102; clear HB; have HO_3 := n0_; have BK102 := n1_; have HB := n2_; clear n0_ n1_ n2_; obtain ⟨_, _, _, _, _, _⟩ := q3 BK102.out; obtain ⟨Ao12, co12, eo12⟩ := Kd.R_slice HO_3.out; subst eo12) | ((with_reducible refine gate_callee (f := 58) rfl ?_); refine goesL_ (some 23) rfl rfl Tryd.func58 (by kernel_rfl) rfl #[.slice Ao12 x3_1.length co12, .string ((rd_T43 l0 x8_1).f1)] rfl qm ?_; (with_reducible refine (rung_once.calls k1 (fun k_ => some k_ = (.slice Ao12 x3_1.length co12 : Value).ownBlock) (.slice Ao12 x3_1.length co12) x3_1 ((rd_T43 l0 x8_1).f1) t103 w _ ?side1 ?side2 A7.out).mono ?_); (case side1 => repeat (first | (with_reducible first | exact HB.out | apply below_alloc | apply pw_below_drewN | apply below_drew1 | refine below_set ?_ GE102.out) | exact HB.out)); (case side2 => exact Kd.R_tight rfl HO_3.out); rintro e w13 ⟨v104, rfl, ho0, hb, hkp⟩; refine ⟨_, rfl, ?_⟩; have n0_ := Aside0.mk (blk_kept (by (with_reducible repeat (first | refine blk_drewN ?_ _ | refine blk_drew ?_ | refine blk_alloc ?_ _)); exact BK102.out) hkp (fun hs_ => (fun e_ => (Kd.R_ne HO_3.out BK102.out (by decide)) e_) hs_)); have n1_ := Aside0.mk (Kd.R_mono (ok' := fun k_ => True) ho0 (fun k_ hk_ => trivial)); have n2_ := Aside0.mk (hb); clear BK102; clear HB; clear HO_3; have BK102 := n0_; have HO105 := n1_; have HB := n2_; clear n0_ n1_ n2_; (try clear hb); (try clear hkp); (try clear ho0)))
                go_roundg k1
                case measure => have := HK1.out; omega
                case rel => exact ⟨(t103), (wrap64 (x8_1 + 1)), qv, H', ⟨by have := HK1.out; omega⟩, ⟨by (with_reducible repeat (first | apply Kd.R_alloc | apply Kd.R_drewN | apply Kd.R_drew)); exact HO105.out⟩, qB⟩
              rw [if_neg c6] at H
              have c6b0 : decide (((rd_T43 l0 x8_1).f0) ≤ 2) = false := decide_eq_false c6
              clear c6
              have H' := Aside0.mk H
              clear H
              have p101 : 0 ≤ (x8_1 : Int) := qa
              have q101 : x8_1 < (l0.length : Int) := qa
              obtain ⟨ad101, A101_2, c101_2, e101, hx101_0, hx101_1, hx101_2, hl101_2, hi101_2⟩ := at_T43 HR0.out x8_1 p101 q101
              cases e101
              replace hx101_0 := qc HB.out hx101_0
              replace hx101_1 := qc HB.out hx101_1
              replace hx101_2 := qc HB.out hx101_2
              have HR101_2 := Aside0.mk hi101_2
              have HC101_2 := Aside0.mk hl101_2
              clear hi101_2 hl101_2
              replace p101 := eq_true p101
              replace q101 := eq_true q101
              go_wp2_with (first | ((with_reducible refine gate_dst (N := 5) rfl ?_); refine box_event ?hg (N := 5) ?hd (cs := #[.int .i64 0, .string (⟨#[]⟩ : ByteArray), .slice none 0 0]) (t := 43) ?hr ?_; (case hd => rfl); (case hg => rfl); (case hr => first | (go_simp; done) | (go_simp; rfl)); intro gb102 hg w14 hbox hb; have n0_ := Aside0.mk (Kd.R_below (by (with_reducible repeat (first | apply Kd.R_alloc | apply Kd.R_drewN | apply Kd.R_drew)); exact HO_3.out) hb); have n1_ := qs hb; have n2_ := Aside0.mk (hbox); have n3_ := Aside0.mk ((by rw [hg]; exact (below_size qb) : w.heap.size ≤ gb102)); have n4_ := Aside0.mk ((by rw [hg]; exact (below_size qb) : w.heap.size ≤ gb102)); clear HO_3; clear HB; have HO_3 := n0_; have HB := n1_; have BK102 := n2_; have GW102 := n3_; have GE102 := n4_; clear n0_ n1_ n2_ n3_ n4_; clear hb hbox hg; obtain ⟨_, _, _, _, _, _⟩ := q3 BK102.out))
              go_roundg k1
              case measure => have := HK1.out; omega
              case rel => exact ⟨(x3_1), (wrap64 (x8_1 + 1)), qv, H', ⟨by have := HK1.out; omega⟩, ⟨by (with_reducible repeat (first | apply Kd.R_alloc | apply Kd.R_drewN | apply Kd.R_drew)); exact Kd.R_mono (Kd.R_far (p := ⟨gb102, 2, none⟩) (Kd.R_far (p := ⟨gb102, 1, none⟩) (Kd.R_far (p := ⟨gb102, 0, none⟩) (Kd.R_types HO_3.out BK102.out (by decide)) (fun _ hk => hk.2) (.int .i64 ((rd_T43 l0 x8_1).f0))) (fun _ hk => hk.2) (.string ((rd_T43 l0 x8_1).f1))) (fun _ hk => hk.2) (.slice A101_2 ((rd_T43 l0 x8_1).f2).length c101_2)) (fun _ hk => trivial)⟩, qB⟩
            rw [if_neg c5] at H
            have c5b0 : decide (0 ≤ ((rd_T43 l0 x8_1).f0)) = false := decide_eq_false c5
            clear c5
            have H' := Aside0.mk H
            clear H
            have p101 : 0 ≤ (x8_1 : Int) := qa
            have q101 : x8_1 < (l0.length : Int) := qa
            obtain ⟨ad101, A101_2, c101_2, e101, hx101_0, hx101_1, hx101_2, hl101_2, hi101_2⟩ := at_T43 HR0.out x8_1 p101 q101
            cases e101
            replace hx101_0 := qc HB.out hx101_0
            replace hx101_1 := qc HB.out hx101_1
            replace hx101_2 := qc HB.out hx101_2
            have HR101_2 := Aside0.mk hi101_2
            have HC101_2 := Aside0.mk hl101_2
            clear hi101_2 hl101_2
            replace p101 := eq_true p101
            replace q101 := eq_true q101
            go_wp2_with (first | ((with_reducible refine gate_dst (N := 5) rfl ?_); refine box_event ?hg (N := 5) ?hd (cs := #[.int .i64 0, .string (⟨#[]⟩ : ByteArray), .slice none 0 0]) (t := 43) ?hr ?_; (case hd => rfl); (case hg => rfl); (case hr => first | (go_simp; done) | (go_simp; rfl)); intro gb102 hg w16 hbox hb; have n0_ := Aside0.mk (Kd.R_below (by (with_reducible repeat (first | apply Kd.R_alloc | apply Kd.R_drewN | apply Kd.R_drew)); exact HO_3.out) hb); have n1_ := qs hb; have n2_ := Aside0.mk (hbox); have n3_ := Aside0.mk ((by rw [hg]; exact (below_size qb) : w.heap.size ≤ gb102)); have n4_ := Aside0.mk ((by rw [hg]; exact (below_size qb) : w.heap.size ≤ gb102)); clear HO_3; clear HB; have HO_3 := n0_; have HB := n1_; have BK102 := n2_; have GW102 := n3_; have GE102 := n4_; clear n0_ n1_ n2_ n3_ n4_; clear hb hbox hg; obtain ⟨_, _, _, _, _, _⟩ := q3 BK102.out))
            go_roundg k1
            case measure => have := HK1.out; omega
            case rel => exact ⟨(x3_1), (wrap64 (x8_1 + 1)), qv, H', ⟨by have := HK1.out; omega⟩, ⟨by (with_reducible repeat (first | apply Kd.R_alloc | apply Kd.R_drewN | apply Kd.R_drew)); exact Kd.R_mono (Kd.R_far (p := ⟨gb102, 2, none⟩) (Kd.R_far (p := ⟨gb102, 1, none⟩) (Kd.R_far (p := ⟨gb102, 0, none⟩) (Kd.R_types HO_3.out BK102.out (by decide)) (fun _ hk => hk.2) (.int .i64 ((rd_T43 l0 x8_1).f0))) (fun _ hk => hk.2) (.string ((rd_T43 l0 x8_1).f1))) (fun _ hk => hk.2) (.slice A101_2 ((rd_T43 l0 x8_1).f2).length c101_2)) (fun _ hk => trivial)⟩, qB⟩
          rw [if_neg c4] at H
          exact absurd H (by simp)
        rw [if_neg c3] at H
        exact absurd H (by simp)
      rw [if_neg c2] at H
      have c2b0 : decide (x8_1 < (l0.length : Int)) = false := decide_eq_false c2
      clear c2
      obtain rfl := Option.some.inj H
      go_wp2
      go_ret
      exact ⟨_, by first | rfl | (simp [errW_none, errW_some] <;> rfl) | (simp [*, errW_none, errW_some] <;> rfl), by (with_reducible repeat (first | apply Kd.R_alloc | apply Kd.R_drewN | apply Kd.R_drew)); exact HO_3.out, qb⟩
end Go.Proofs.YtiaccdaeomaogaaDoor.F
