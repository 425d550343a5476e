/- Texts of one claim, slimmed and merged by slim.py. -/
import Derived.Test.YtiaccdaeomaogaaDoorR4
import Derived.Test.YtiaccdaeomaogaaDoorR23
import Derived.Test.YtiaccdaeomaogaaDoorR25
import Derived.Test.YtiaccdaeomaogaaDoorR33
import Derived.Test.YtiaccdaeomaogaaDoorR36
namespace Go.Proofs.YtiaccdaeomaogaaDoor.F
open Go.RowKit Go.Proofs.YtiaccdaeomaogaaDoorW.PrintWords Go.Proofs.YtiaccdaeomaogaaDoorW.PrintLast Go.Proofs.YtiaccdaeomaogaaDoorW.PrintMore
set_option linter.unusedVariables false
set_option linter.unusedSimpArgs false
theorem docBits_l0 (l : List S43) (hl : l.length ≤ 1000) : ∀ (m i : Nat) (acc : List ByteArray), i + m = l.length → acc.length ≤ i → Tot (fun k => malthouseref09_Bits.l0 k l acc (i : Int)) ((l.drop i).foldl bitsS acc)
  | 0, i, acc, e, ha => by
    refine Tot.succ ?_
    simp only [malthouseref09_Bits.l0, if_neg (show ¬ (i : Int) < (l.length : Int) by omega)]
    rw [List.drop_eq_nil_of_le (by omega)]; exact Tot.const _
  | m + 1, i, acc, e, ha => by
    have hi : i < l.length := by omega
    have W := w1 (show 0 ≤ (i : Int) by omega) (show (i : Int) < 9223372036854775807 by omega)
    refine Tot.succ ?_
    rw [drop43 hi, List.foldl_cons]
    simp only [malthouseref09_Bits.l0, if_pos (show (i : Int) < (l.length : Int) by omega), if_pos (show 0 ≤ (i : Int) by omega), W]
    have Nx := fun acc' (h : acc'.length ≤ i + 1) => docBits_l0 l hl m (i + 1) acc' (by omega) h
    generalize rd_T43 l (i : Int) = r at *
    have P : (0 ≤ r.f0 ∧ r.f0 ≤ 2) → Tot (fun k => (malthouseref09_Place.f k acc r.f1).bind fun t103 => (if t103 < 0 then (if acc.length < 8796093022208 then (malthouseref09_Bits.l0 k l (acc ++ [r.f1]) ((i : Int) + 1)) else (none)) else (malthouseref09_Bits.l0 k l acc ((i : Int) + 1)))) ((l.drop (i + 1)).foldl bitsS (bitsS acc r)) := fun h => by
      refine Tot.bind (placeB acc r.f1 (by omega)) ?_
      unfold bitsS onceP
      rw [if_pos h]
      by_cases c : 0 ≤ ixF acc r.f1 0
      · simp only [if_neg (show ¬ ixF acc r.f1 0 < 0 by omega), if_pos c]; exact Nx acc (by omega)
      · simp only [if_pos (show ixF acc r.f1 0 < 0 by omega), if_pos (show acc.length < 8796093022208 by omega), if_neg c]; exact Nx _ (by simp; omega)
    by_cases c0 : r.f0 = 0
    · simp only [if_pos c0]; exact P (by omega)
    by_cases c1 : r.f0 = 1
    · simp only [if_neg c0, if_pos c1]; exact P (by omega)
    by_cases c2 : r.f0 = 2
    · simp only [if_neg c0, if_neg c1, if_pos c2]; exact P (by omega)
    · have e : bitsS acc r = acc := by unfold bitsS; rw [if_neg (by omega)]
      simp only [if_neg c0, if_neg c1, if_neg c2, e]; exact Nx acc (by omega)
theorem docBits_tot (l : List S43) (hl : l.length ≤ 1000) : Tot (fun k => malthouseref09_Bits.f k l) (bitsP l) := docBits_l0 l hl l.length 0 [] (by omega) (by simp)
def ownI (op : Int) : Bool := decide (op = 0 ∨ op = 1 ∨ op = 3 ∨ op = 4 ∨ op = 5 ∨ op = 6)
def needI (op : Int) : Int := if op = 0 ∨ op = 1 ∨ op = 2 then 0 else if op = 7 ∨ op = 8 then 2 else 1
theorem needI_bd (op : Int) : 0 ≤ needI op ∧ needI op ≤ 2 := by unfold needI; (repeat' split) <;> omega
theorem namedI (op : Int) (h : 0 ≤ op ∧ op ≤ 9) : namedP op = (ownI op, needI op, 1, true) := by
  have c : op = 0 ∨ op = 1 ∨ op = 2 ∨ op = 3 ∨ op = 4 ∨ op = 5 ∨ op = 6 ∨ op = 7 ∨ op = 8 ∨ op = 9 := by omega
  rcases c with rfl | rfl | rfl | rfl | rfl | rfl | rfl | rfl | rfl | rfl <;> rfl
theorem namedO (op : Int) (h : ¬ (0 ≤ op ∧ op ≤ 9)) : namedP op = (false, 0, 0, false) := by
  unfold namedP
  rw [if_neg (by omega), if_neg (by omega), if_neg (by omega), if_neg (by omega), if_neg (by omega)]
theorem ownB (op : Int) : malthouseref09_bit.f op = some (ownI op) := by
  unfold malthouseref09_bit.f ownI
  by_cases h0 : op = 0
  · rw [if_pos h0, decide_eq_true (by omega)]
  by_cases h1 : op = 1
  · rw [if_neg h0, if_pos h1, decide_eq_true (by omega)]
  by_cases h3 : op = 3
  · rw [if_neg h0, if_neg h1, if_pos h3, decide_eq_true (by omega)]
  by_cases h4 : op = 4
  · rw [if_neg h0, if_neg h1, if_neg h3, if_pos h4, decide_eq_true (by omega)]
  by_cases h5 : op = 5
  · rw [if_neg h0, if_neg h1, if_neg h3, if_neg h4, if_pos h5, decide_eq_true (by omega)]
  by_cases h6 : op = 6
  · rw [if_neg h0, if_neg h1, if_neg h3, if_neg h4, if_neg h5, if_pos h6, decide_eq_true (by omega)]
  · rw [if_neg h0, if_neg h1, if_neg h3, if_neg h4, if_neg h5, if_neg h6, decide_eq_false (by omega)]
theorem needB (op : Int) : Tot (fun k => malthouseref09_needs.f k op) (needI op) := by
  have T : Tot (fun k => malthouseref09_needs.j0 k op true) 0 := Tot.succ (by simp only [malthouseref09_needs.j0, if_true]; exact Tot.const _)
  unfold malthouseref09_needs.f needI
  by_cases h0 : op = 0
  · simp only [if_pos h0, show (op == 0) = true from beq_iff_eq.mpr h0, if_pos (show op = 0 ∨ op = 1 ∨ op = 2 by omega)]; exact T
  by_cases h1 : op = 1
  · simp only [if_neg h0, if_pos h1, show (op == 1) = true from beq_iff_eq.mpr h1, if_pos (show op = 0 ∨ op = 1 ∨ op = 2 by omega)]; exact T
  by_cases h2 : op = 2
  · simp only [if_neg h0, if_neg h1, show (op == 2) = true from beq_iff_eq.mpr h2, if_pos (show op = 0 ∨ op = 1 ∨ op = 2 by omega)]; exact T
  simp only [if_neg h0, if_neg h1, show (op == 2) = false from beq_eq_false_iff_ne.mpr h2, if_neg (show ¬ (op = 0 ∨ op = 1 ∨ op = 2) by omega)]
  refine Tot.succ ?_
  by_cases h7 : op = 7
  · simp only [malthouseref09_needs.j0, ff, if_pos h7, if_pos (show op = 7 ∨ op = 8 by omega)]; exact Tot.const _
  by_cases h8 : op = 8
  · simp only [malthouseref09_needs.j0, ff, if_neg h7, if_pos h8, if_pos (show op = 7 ∨ op = 8 by omega)]; exact Tot.const _
  · simp only [malthouseref09_needs.j0, ff, if_neg h7, if_neg h8, if_neg (show ¬ (op = 7 ∨ op = 8) by omega)]; exact Tot.const _
def formI (x : S40) : Bool := decide (0 ≤ x.f0 ∧ x.f0 ≤ 9 ∧ (ownI x.f0 = false → x.f1.toList = ([] : List UInt8)) ∧ (x.f0 ≠ 2 → blankB x.f2 = true))
noncomputable def insE (bits tags : List ByteArray) (n : Int) (x : S40) : Int :=
  if formI x = false then 1
  else if ownI x.f0 = true ∧ inL bits x.f1 = false then 21
  else if x.f0 = 2 ∧ knownP tags x.f2 = false then 21
  else if x.f0 = 2 ∧ mayP x.f2 = false then 1
  else if n < needI x.f0 ∨ n - needI x.f0 + 1 > 8 then 1 else 0
noncomputable def codeE (bits tags : List ByteArray) : Int → List S40 → Int
  | n, [] => if n = 1 then 0 else 1
  | n, x :: l => if insE bits tags n x = 0 then codeE bits tags (n - needI x.f0 + 1) l else insE bits tags n x
theorem blankR (e : S34) : rung_blank.f e.f0 e.f1 e.f2 e.f3 = some (blankB e) := by
  unfold rung_blank.f blankB
  by_cases c1 : e.f0 = 0
  · by_cases c2 : e.f1 = 0
    · by_cases c3 : e.f2.toList = ([] : List UInt8)
      · by_cases c4 : (e.f3.length : Int) = 0
        · rw [decide_eq_true ⟨c1, c2, c3, c4⟩, if_pos c1, if_pos c2, if_pos c3, show ((e.f3.length : Int) == 0) = true from beq_iff_eq.mpr c4]
        · rw [decide_eq_false (fun h => c4 h.2.2.2), if_pos c1, if_pos c2, if_pos c3, show ((e.f3.length : Int) == 0) = false from beq_eq_false_iff_ne.mpr c4]
      · rw [decide_eq_false (fun h => c3 h.2.2.1), if_pos c1, if_pos c2, if_neg c3]
    · rw [decide_eq_false (fun h => c2 h.2.1), if_pos c1, if_neg c2]
  · rw [decide_eq_false (fun h => c1 h.1), if_neg c1]
theorem strangeA (x : S34) (tags : List ByteArray) (h : OkE x) (ht : tags.length < 9223372036854775807) : Tot (fun k => rung_strange.f k x.f0 x.f1 x.f2 x.f3 tags) (!knownP tags x) := by
  obtain ⟨l, hl, ll, lm⟩ := namesA_tot h
  rw [known_all lm]
  have L : ∀ (n i : Nat), i + n = l.length → Tot (fun k => rung_strange.l0 k tags l (l.length : Int) (i : Int)) (!(l.drop i).all (inL tags)) := by
    intro n
    induction n with
    | zero =>
      intro i e
      refine Tot.succ ?_
      simp only [rung_strange.l0, if_neg (show ¬ (i : Int) < (l.length : Int) by omega)]
      rw [List.drop_eq_nil_of_le (by omega)]; exact Tot.const _
    | succ n ih =>
      intro i e
      refine Tot.succ ?_
      simp only [rung_strange.l0, if_pos (show (i : Int) < (l.length : Int) by omega), if_pos (show 0 ≤ (i : Int) by omega), w1 (show 0 ≤ (i : Int) by omega) (show (i : Int) < 9223372036854775807 by omega)]
      rw [drop_rd ByteArray.empty (show i < l.length by omega), List.all_cons]
      refine Tot.bind (hasA tags _ ht) ?_
      cases inL tags (rdOf ByteArray.empty l (i : Int)) with
      | true => simp only [if_true, Bool.true_and]; exact ih (i + 1) (by omega)
      | false => simp only [ff, Bool.false_and, Bool.not_false]; exact Tot.const _
  have := L l.length 0 (by omega)
  rw [List.drop_zero] at this
  exact Tot.bind hl this
set_option maxHeartbeats 1000000 in
theorem codeA (bits tags : List ByteArray) (hb : bits.length < 9223372036854775807) (ht : tags.length < 9223372036854775807) (l : List S40) (hl : l.length ≤ 50) (hE : ∀ x ∈ l, OkE x.f2) : ∀ (m i : Nat) (n : Int), i + m = l.length → 0 ≤ n → n ≤ 8 → Tot (fun k => rung_code.l0 k bits tags n l (l.length : Int) (i : Int)) (codeE bits tags n (l.drop i))
  | 0, i, n, e, h0, h8 => by
    refine Tot.succ ?_
    simp only [rung_code.l0, if_neg (show ¬ (i : Int) < (l.length : Int) by omega)]
    rw [List.drop_eq_nil_of_le (by omega), codeE]
    by_cases c : n = 1
    · simp only [if_pos c]; exact Tot.const _
    · simp only [if_neg c]; exact Tot.const _
  | m + 1, i, n, e, h0, h8 => by
    have hi : i < l.length := by omega
    have hx := hE _ (rd40_mem hi)
    have Nx := fun n' (g0 : 0 ≤ n') (g8 : n' ≤ 8) => codeA bits tags hb ht l hl hE m (i + 1) n' (by omega) g0 g8
    have W := w1 (show 0 ≤ (i : Int) by omega) (show (i : Int) < 9223372036854775807 by omega)
    rw [drop40 hi, codeE]
    refine Tot.succ ?_
    simp only [rung_code.l0, if_pos (show (i : Int) < (l.length : Int) by omega), if_pos (show 0 ≤ (i : Int) by omega)]
    generalize rd_T40 l (i : Int) = x at *
    have hN := named_tot x.f0
    obtain ⟨q0, q2⟩ := needI_bd x.f0
    have J1t : ∀ (b : Bool) (n1 n2 : Int), Tot (fun k => rung_code.j1 k bits tags n b n1 n2 l (l.length : Int) (i : Int) true x.f0 x.f1 x.f2.f0 x.f2.f1 x.f2.f2 x.f2.f3) 1 := fun b n1 n2 => Tot.succ (by simp only [rung_code.j1, if_true]; exact Tot.const _)
    have J4 : ∀ b : Bool, Tot (fun k => rung_code.j4 k bits tags n (needI x.f0) 1 l (l.length : Int) (i : Int) b) (if b = true then 1 else if n < needI x.f0 ∨ n - needI x.f0 + 1 > 8 then 1 else codeE bits tags (n - needI x.f0 + 1) (l.drop (i + 1))) := fun b => by
      refine Tot.succ ?_
      cases b with
      | true => simp only [rung_code.j4, if_true]; exact Tot.const _
      | false =>
        have e1 : wrap64 (wrap64 (n - needI x.f0) + 1) = n - needI x.f0 + 1 := by unfold wrap64; omega
        have e2 : wrap64 (n + wrap64 (1 - needI x.f0)) = n - needI x.f0 + 1 := by unfold wrap64; omega
        simp only [rung_code.j4, ff, e1, e2, W]
        by_cases c1 : n < needI x.f0
        · simp only [if_pos c1, if_pos (show n < needI x.f0 ∨ n - needI x.f0 + 1 > 8 from .inl c1)]; exact Tot.const _
        by_cases c2 : n - needI x.f0 + 1 > 8
        · simp only [if_neg c1, if_pos c2, if_pos (show n < needI x.f0 ∨ n - needI x.f0 + 1 > 8 from .inr c2)]; exact Tot.const _
        · simp only [if_neg c1, if_neg c2, if_neg (show ¬ (n < needI x.f0 ∨ n - needI x.f0 + 1 > 8) from fun h => h.elim c1 c2)]; exact Nx _ (by omega) (by omega)
    have J1 : formI x = true → Tot (fun k => rung_code.j1 k bits tags n (ownI x.f0) (needI x.f0) 1 l (l.length : Int) (i : Int) false x.f0 x.f1 x.f2.f0 x.f2.f1 x.f2.f2 x.f2.f3) (if insE bits tags n x = 0 then codeE bits tags (n - needI x.f0 + 1) (l.drop (i + 1)) else insE bits tags n x) := fun hf => by
      have J3t : Tot (fun k => rung_code.j3 k bits tags n (needI x.f0) 1 l (l.length : Int) (i : Int) true x.f0 x.f1 x.f2.f0 x.f2.f1 x.f2.f2 x.f2.f3) 21 := Tot.succ (by simp only [rung_code.j3, if_true]; exact Tot.const _)
      have J3 : ¬ (ownI x.f0 = true ∧ inL bits x.f1 = false) → ¬ (x.f0 = 2 ∧ knownP tags x.f2 = false) → Tot (fun k => rung_code.j3 k bits tags n (needI x.f0) 1 l (l.length : Int) (i : Int) false x.f0 x.f1 x.f2.f0 x.f2.f1 x.f2.f2 x.f2.f3) (if insE bits tags n x = 0 then codeE bits tags (n - needI x.f0 + 1) (l.drop (i + 1)) else insE bits tags n x) := fun g1 g2 => by
        have ei : insE bits tags n x = if x.f0 = 2 ∧ mayP x.f2 = false then 1 else if n < needI x.f0 ∨ n - needI x.f0 + 1 > 8 then 1 else 0 := by unfold insE; rw [if_neg (by rw [hf]; decide), if_neg g1, if_neg g2]
        refine Tot.succ ?_
        simp only [rung_code.j3, ff]
        by_cases o2 : x.f0 = 2
        · simp only [if_pos o2]
          refine Tot.bind (may_both hx).1 ?_
          cases hm : mayP x.f2 with
          | true =>
            have := J4 false
            rw [hm, if_neg (show ¬ (x.f0 = 2 ∧ true = false) from fun h => nomatch h.2)] at ei
            rw [ei]
            simp only [ff] at this
            simp only [Bool.not_true]
            by_cases c : n < needI x.f0 ∨ n - needI x.f0 + 1 > 8
            · rw [if_pos c] at this; rw [if_pos c, if_neg (show ¬ (1 : Int) = 0 by decide)]; exact this
            · rw [if_neg c] at this; rw [if_neg c, if_pos rfl]; exact this
          | false =>
            rw [hm, if_pos ⟨o2, rfl⟩] at ei
            rw [ei, if_neg (by decide)]
            have := J4 true
            simp only [if_true] at this
            simp only [Bool.not_false]; exact this
        · have := J4 false
          rw [if_neg (fun h => o2 h.1)] at ei
          rw [ei]
          simp only [ff] at this
          simp only [if_neg o2]
          by_cases c : n < needI x.f0 ∨ n - needI x.f0 + 1 > 8
          · rw [if_pos c] at this; rw [if_pos c, if_neg (show ¬ (1 : Int) = 0 by decide)]; exact this
          · rw [if_neg c] at this; rw [if_neg c, if_pos rfl]; exact this
      have J2t : Tot (fun k => rung_code.j2 k bits tags n (needI x.f0) 1 l (l.length : Int) (i : Int) true x.f0 x.f1 x.f2.f0 x.f2.f1 x.f2.f2 x.f2.f3) 21 := Tot.succ (by simp only [rung_code.j2, if_true]; exact J3t)
      have J2 : ¬ (ownI x.f0 = true ∧ inL bits x.f1 = false) → Tot (fun k => rung_code.j2 k bits tags n (needI x.f0) 1 l (l.length : Int) (i : Int) false x.f0 x.f1 x.f2.f0 x.f2.f1 x.f2.f2 x.f2.f3) (if insE bits tags n x = 0 then codeE bits tags (n - needI x.f0 + 1) (l.drop (i + 1)) else insE bits tags n x) := fun g1 => by
        refine Tot.succ ?_
        simp only [rung_code.j2, ff]
        by_cases o2 : x.f0 = 2
        · simp only [if_pos o2]
          refine Tot.bind (strangeA x.f2 tags hx ht) ?_
          cases hk : knownP tags x.f2 with
          | true =>
            simp only [Bool.not_true]
            exact J3 g1 (fun h => by rw [hk] at h; cases h.2)
          | false =>
            have ei : insE bits tags n x = 21 := by unfold insE; rw [if_neg (by rw [hf]; decide), if_neg g1, if_pos ⟨o2, hk⟩]
            rw [ei, if_neg (by decide)]
            simp only [Bool.not_false]; exact J3t
        · simp only [if_neg o2]
          exact J3 g1 (fun h => o2 h.1)
      refine Tot.succ ?_
      simp only [rung_code.j1, ff]
      by_cases co : ownI x.f0 = true
      · simp only [if_pos co]
        refine Tot.bind (hasA bits x.f1 hb) ?_
        cases hk : inL bits x.f1 with
        | true => simp only [Bool.not_true]; exact J2 (fun h => by rw [hk] at h; cases h.2)
        | false =>
          have ei : insE bits tags n x = 21 := by unfold insE; rw [if_neg (by rw [hf]; decide), if_pos ⟨co, hk⟩]
          rw [ei, if_neg (by decide)]
          simp only [Bool.not_false]; exact J2t
      · simp only [if_neg co]; exact J2 (fun h => co h.1)
    refine Tot.bind hN ?_
    have bad : formI x = false → (if insE bits tags n x = 0 then codeE bits tags (n - needI x.f0 + 1) (l.drop (i + 1)) else insE bits tags n x) = 1 := fun h => by
      have ei : insE bits tags n x = 1 := by unfold insE; rw [if_pos h]
      rw [ei, if_neg (by decide)]
    by_cases hr : 0 ≤ x.f0 ∧ x.f0 ≤ 9
    · rw [namedI x.f0 hr]
      simp only [if_true]
      have B : (ownI x.f0 = false → x.f1.toList = ([] : List UInt8)) → x.f0 ≠ 2 → Tot (fun k => (rung_blank.f x.f2.f0 x.f2.f1 x.f2.f2 x.f2.f3).bind fun t107 => rung_code.j1 k bits tags n (ownI x.f0) (needI x.f0) 1 l (l.length : Int) (i : Int) (!t107) x.f0 x.f1 x.f2.f0 x.f2.f1 x.f2.f2 x.f2.f3) (if insE bits tags n x = 0 then codeE bits tags (n - needI x.f0 + 1) (l.drop (i + 1)) else insE bits tags n x) := fun h1 h2 => by
        simp only [blankR, Option.bind_some]
        cases hB : blankB x.f2 with
        | true => simp only [Bool.not_true]; exact J1 (decide_eq_true ⟨hr.1, hr.2, h1, fun _ => hB⟩)
        | false =>
          rw [bad (decide_eq_false (fun h => by have := h.2.2.2 h2; rw [hB] at this; cases this))]
          simp only [Bool.not_false]; exact J1t _ _ _
      by_cases co : ownI x.f0 = true
      · simp only [if_pos co]
        have o2 : ¬ x.f0 = 2 := fun h => by unfold ownI at co; have := of_decide_eq_true co; omega
        simp only [if_neg o2]
        have := B (fun h => by rw [co] at h; cases h) o2
        exact this
      · have co' : ownI x.f0 = false := by simpa using co
        simp only [if_neg co]
        by_cases c : x.f1.toList = ([] : List UInt8)
        · simp only [if_pos c]
          by_cases o2 : x.f0 = 2
          · simp only [if_pos o2]; exact J1 (decide_eq_true ⟨hr.1, hr.2, fun _ => c, fun h => absurd o2 h⟩)
          · simp only [if_neg o2]; exact B (fun _ => c) o2
        · rw [bad (decide_eq_false (fun h => c (h.2.2.1 co')))]
          simp only [if_neg c, show (x.f1.toList != ([] : List UInt8)) = true from bne_iff_ne.mpr c]; exact J1t _ _ _
    · rw [namedO x.f0 hr, bad (decide_eq_false (fun h => hr ⟨h.1, h.2.1⟩))]
      simp only [ff, Bool.not_false]; exact J1t _ _ _
end Go.Proofs.YtiaccdaeomaogaaDoor.F
namespace Go.Proofs.YtiaccdaeomaogaaDoor.F
open Go.RowKit Go.Proofs.YtiaccdaeomaogaaDoorW.PrintWords Go.Proofs.YtiaccdaeomaogaaDoorW.PrintLast Go.Proofs.YtiaccdaeomaogaaDoorW.PrintMore
attribute [local go_sem] max2_int min2_int max_two min_two max_three min_three max_four min_four   -- for this text's walks alone
set_option linter.unusedVariables false
set_option linter.unusedSimpArgs false
def malthouselaw09_names.l0 : Nat → List ByteArray → Int → Option (Bool)
  | 0, _, _ => none
  | k + 1, x0, x3 => if x3 < (x0.length : Int) then (if 0 ≤ x3 then (if ((rdOf ByteArray.empty x0 x3).size : Int) > 200 then (some false) else (malthouselaw09_names.l0 k x0 (wrap64 (x3 + 1)))) else (none)) else (some true)
def malthouselaw09_names.f (k : Nat) (l0 : List ByteArray) : Option (Bool) := if (l0.length : Int) > 100 then (some false) else (malthouselaw09_names.l0 k l0 0)
set_option maxHeartbeats 8000000 in
set_option maxRecDepth 100000 in
theorem malthouselaw09_names.calls (k : Nat) (A0 : Option Addr) (c0 : Nat) (l0 : List ByteArray) (r : Bool) (w : World) (hr0 : Kd.C Kd.string w A0 l0.length l0) (hc0 : l0.length ≤ c0) (h : malthouselaw09_names.f k l0 = some r) :
  Calls Tryd.prog 21 #[.slice A0 l0.length c0] w fun e w' => e = .returned (.bool r) ∧ Drawn0 w w' := by
 have HR0 := Aside0.mk hr0
 have HC0 := Aside0.mk hc0
 clear hr0 hc0
 have H : (if (l0.length : Int) > 100 then (some false) else (malthouselaw09_names.l0 k l0 0)) = some r := h
 clear h
 by_cases c2 : (l0.length : Int) > 100
 ·rw [if_pos c2] at H
  have c2b0 : decide (100 < (l0.length : Int)) = true := decide_eq_true c2
  have c2b1 : decide (100 < l0.length) = true := decide_eq_true (by omega)
  clear c2
  obtain rfl := Option.some.inj H
  go_enter Tryd.func21, Tryd.ntmps21
  go_wp2
  go_ret
  exact ⟨by first | rfl | (simp; done) | (simp [*]; done), by repeat (first | exact Drawn0.refl _ | apply Drawn0.step)⟩
 rw [if_neg c2] at H
 have c2b0 : decide (100 < (l0.length : Int)) = false := decide_eq_false c2
 have c2b1 : decide (100 < l0.length) = false := decide_eq_false (by omega)
 clear c2
 have H' := Aside0.mk H
 clear H
 go_enter Tryd.func21, Tryd.ntmps21
 go_wp2
 go_loopg [3] k (fun kq v3 w' => ∃ (x3_1 : Int), v3 = .int .i64 x3_1 ∧ Aside0 (malthouselaw09_names.l0 kq l0 x3_1 = some r) ∧ Aside0 (kq ≤ k) ∧ Drawn0 w w')
 case atStart => exact ⟨(0), qv, H', ⟨Nat.le_refl _⟩, by repeat (first | exact Drawn0.refl _ | apply Drawn0.step)⟩
 case round =>
  clear H'
  obtain ⟨x3_1, rfl, HA, HK1, ⟨m1, rfl⟩⟩ := hrel
  cases gk with
  | zero => exact absurd HA.out (by simp [malthouselaw09_names.l0])
  | succ k1 =>
   have H := HA.out
   clear HA
   simp only [malthouselaw09_names.l0] at H
   by_cases c3 : x3_1 < (l0.length : Int)
   ·rw [if_pos c3] at H
    have c3b0 : decide (x3_1 < (l0.length : Int)) = true := decide_eq_true c3
    clear c3
    by_cases c4 : 0 ≤ x3_1
    ·rw [if_pos c4] at H
     have c4b0 : decide (0 ≤ x3_1) = true := decide_eq_true c4
     clear c4
     by_cases c5 : ((rdOf ByteArray.empty l0 x3_1).size : Int) > 200
     ·rw [if_pos c5] at H
      have c5b0 : decide (200 < ((rdOf ByteArray.empty l0 x3_1).size : Int)) = true := decide_eq_true c5
      have c5b1 : decide (200 < (rdOf ByteArray.empty l0 x3_1).size) = true := decide_eq_true (by omega)
      clear c5
      obtain rfl := Option.some.inj H
      have p101 : 0 ≤ (x3_1 : Int) := qa
      have q101 : x3_1 < (l0.length : Int) := qa
      obtain ⟨ad101, e101, hx101_0⟩ := Kd.at_string HR0.out x3_1 p101 q101
      cases e101
      replace p101 := eq_true p101
      replace q101 := eq_true q101
      go_wp2
      go_ret
      exact ⟨by first | rfl | (simp; done) | (simp [*]; done), by repeat (first | exact Drawn0.refl _ | apply Drawn0.step)⟩
     rw [if_neg c5] at H
     have c5b0 : decide (200 < ((rdOf ByteArray.empty l0 x3_1).size : Int)) = false := decide_eq_false c5
     have c5b1 : decide (200 < (rdOf ByteArray.empty l0 x3_1).size) = false := decide_eq_false (by omega)
     clear c5
     have H' := Aside0.mk H
     clear H
     have p101 : 0 ≤ (x3_1 : Int) := qa
     have q101 : x3_1 < (l0.length : Int) := qa
     obtain ⟨ad101, e101, hx101_0⟩ := Kd.at_string HR0.out x3_1 p101 q101
     cases e101
     replace p101 := eq_true p101
     replace q101 := eq_true q101
     go_wp2
     go_roundg k1
     case measure => have := HK1.out; omega
     case rel => exact ⟨(wrap64 (x3_1 + 1)), qv, H', ⟨by have := HK1.out; omega⟩, by repeat (first | exact Drawn0.refl _ | apply Drawn0.step)⟩
    rw [if_neg c4] at H
    exact absurd H (by simp)
   rw [if_neg c3] at H
   have c3b0 : decide (x3_1 < (l0.length : Int)) = false := decide_eq_false c3
   clear c3
   obtain rfl := Option.some.inj H
   go_wp2
   go_ret
   exact ⟨by first | rfl | (simp; done) | (simp [*]; done), by repeat (first | exact Drawn0.refl _ | apply Drawn0.step)⟩
end Go.Proofs.YtiaccdaeomaogaaDoor.F
