/- Texts of one claim, slimmed and merged by slim.py. -/
import Derived.Test.YtiaccdaeomaogaaDoorU4
import Derived.Test.YtiaccdaeomaogaaDoorU19
import Derived.Test.YtiaccdaeomaogaaDoorU21
import Derived.Test.YtiaccdaeomaogaaDoorU26
import Derived.Test.YtiaccdaeomaogaaDoorU29
import Derived.Test.YtiaccdaeomaogaaDoorU32
namespace Go.Proofs.YtiaccdaeomaogaaDoor.F
open Go.RowKit Go.Proofs.YtiaccdaeomaogaaDoorW.PrintWords Go.Proofs.YtiaccdaeomaogaaDoorW.PrintLast Go.Proofs.YtiaccdaeomaogaaDoorW.PrintMore
set_option linter.unusedVariables false
set_option linter.unusedSimpArgs false
def inL (l : List ByteArray) (x : ByteArray) : Bool := decide (ixF l x 0 ≥ 0)
theorem hasA (l : List ByteArray) (x : ByteArray) (hl : l.length < 9223372036854775807) : Tot (fun k => slices_Contains_string_string.f k l x) (inL l x) := Contains_tot l x hl
theorem placeB (l : List ByteArray) (x : ByteArray) (hl : l.length < 9223372036854775807) : Tot (fun k => malthouseref09_Place.f k l x) (ixF l x 0) := by
  have L : ∀ (n i : Nat), i + n = l.length → Tot (fun k => malthouseref09_Place.l0 k l x (i : Int)) (ixF (l.drop i) x (i : Int)) := by
    intro n
    induction n with
    | zero =>
      intro i e
      refine Tot.succ ?_
      simp only [malthouseref09_Place.l0]
      rw [List.drop_eq_nil_of_le (by omega)]
      simp only [if_neg (show ¬ (i : Int) < (l.length : Int) by omega), ixF]
      exact Tot.const _
    | succ n ih =>
      intro i e
      refine Tot.succ ?_
      simp only [malthouseref09_Place.l0]
      rw [drop_rd ByteArray.empty (show i < l.length by omega)]
      simp only [if_pos (show (i : Int) < (l.length : Int) by omega), if_pos (show 0 ≤ (i : Int) by omega), ixF]
      by_cases h : (rdOf ByteArray.empty l (i : Int)).toList = x.toList
      · simp only [if_pos h, if_pos h.symm]; exact Tot.const _
      · simp only [if_neg h, if_neg (fun e : x.toList = _ => h e.symm), w1 (show 0 ≤ (i : Int) by omega) (show (i : Int) < 9223372036854775807 by omega)]
        exact ih (i + 1) (by omega)
  exact L l.length 0 (by omega)
theorem hasB (l : List ByteArray) (x : ByteArray) (hl : l.length < 9223372036854775807) : Tot (fun k => malthouseref11_is.f k l x) (inL l x) := Tot.bind (placeB l x hl) (Tot.const _)
def quoP (a : ByteArray) : Bool := okL a a.size 0 && decide ((runesL a a.size 0).length ≤ 20) && (runesL a a.size 0).all (fun r => !(decide (r < 32 ∨ r = 34)))
theorem quoA (a : ByteArray) (h : a.size ≤ 200) : ∃ t, lex_Quote.f a = some (t, quoP a) := by
  have hv : Lib.validD a.data.toList = okL a a.size 0 := valid_ok a a.size 0 (by omega)
  unfold lex_Quote.f quoP
  rw [if_pos (by omega), hv]
  cases ho : okL a a.size 0 with
  | false => exact ⟨_, by rw [if_neg (by decide)]; rfl⟩
  | true =>
  rw [if_pos rfl, show Lib.runeCount a = (runesL a a.size 0).length from count_len a _ _ ho]
  by_cases hc : (((runesL a a.size 0).length : Nat) : Int) > 20
  · exact ⟨_, by rw [if_pos hc, decide_eq_false (show ¬ (runesL a a.size 0).length ≤ 20 by omega)]; rfl⟩
  · rw [if_neg hc, decide_eq_true (show (runesL a a.size 0).length ≤ 20 by omega)]
    have hq := quote_all a a.size 0 (quoteFrom a) (fun p => rfl) (fun g p => rfl) ho
    rw [hq]
    cases (runesL a a.size 0).all (fun r => !(decide (r < 32 ∨ r = 34))) with
    | true => exact ⟨_, by rw [if_pos rfl]; rfl⟩
    | false => exact ⟨_, by rw [if_neg (by decide)]; rfl⟩
theorem Quote_l0 (l at' : List Int) (s x : ByteArray) (hx : x.size ≤ 200) (hl : l.length < 9223372036854775807) : ∀ (n i : Nat), i + n = l.length → ∃ t, Tot (fun k => malthouseref01_Quote.l0 k x (i : Int) s l at') (t, (l.drop i).all (fun r => !(decide (r < 32 ∨ r = 34))))
  | 0, i, e => by
    refine ⟨((⟨#[34]⟩ : ByteArray) ++ x) ++ (⟨#[34]⟩ : ByteArray), Tot.succ ?_⟩
    have h1 : (⟨#[34]⟩ : ByteArray).size = 1 := rfl
    simp only [malthouseref01_Quote.l0, if_neg (show ¬ (i : Int) < (l.length : Int) by omega), if_pos (show 1 + x.size ≤ 9223372036854775807 by omega), if_pos (show ((⟨#[34]⟩ : ByteArray) ++ x).size + 1 ≤ 9223372036854775807 by rw [ByteArray.size_append]; omega)]
    rw [List.drop_eq_nil_of_le (by omega)]; exact Tot.const _
  | n + 1, i, e => by
    have hd : l.drop i = rd l (i : Int) :: l.drop (i + 1) := by
      rw [List.drop_eq_getElem_cons (by omega)]
      unfold rd; rw [Int.toNat_natCast, List.getD, List.getElem?_eq_getElem (by omega)]; rfl
    rw [hd, List.all_cons]
    by_cases c1 : rd l (i : Int) < 32
    · refine ⟨(⟨#[]⟩ : ByteArray), Tot.succ ?_⟩
      simp only [malthouseref01_Quote.l0, if_pos (show (i : Int) < (l.length : Int) by omega), if_pos (show 0 ≤ (i : Int) by omega), if_pos c1, decide_eq_true (show rd l (i : Int) < 32 ∨ rd l (i : Int) = 34 from .inl c1), Bool.not_true, Bool.false_and]; exact Tot.const _
    by_cases c2 : rd l (i : Int) = 34
    · refine ⟨(⟨#[]⟩ : ByteArray), Tot.succ ?_⟩
      simp only [malthouseref01_Quote.l0, if_pos (show (i : Int) < (l.length : Int) by omega), if_pos (show 0 ≤ (i : Int) by omega), if_neg c1, if_pos c2, decide_eq_true (show rd l (i : Int) < 32 ∨ rd l (i : Int) = 34 from .inr c2), Bool.not_true, Bool.false_and]; exact Tot.const _
    · obtain ⟨t, ht⟩ := Quote_l0 l at' s x hx hl n (i + 1) (by omega)
      refine ⟨t, Tot.succ ?_⟩
      simp only [malthouseref01_Quote.l0, if_pos (show (i : Int) < (l.length : Int) by omega), if_pos (show 0 ≤ (i : Int) by omega), if_neg c1, if_neg c2, decide_eq_false (show ¬ (rd l (i : Int) < 32 ∨ rd l (i : Int) = 34) from fun h => h.elim c1 c2), Bool.not_false, Bool.true_and, w1 (show 0 ≤ (i : Int) by omega) (show (i : Int) < 9223372036854775807 by omega)]
      exact ht
theorem runesL_len (a : ByteArray) : ∀ (g pos : Nat), (runesL a g pos).length ≤ g
  | 0, pos => by simp [runesL]
  | g + 1, pos => by
    simp only [runesL]
    split
    · split
      · simp
      · have := runesL_len a g (pos + (Utf8.decode a pos).2); rw [List.length_cons]; omega
    · simp
theorem quoB (a : ByteArray) (h : a.size ≤ 200) : ∃ t, Tot (fun k => malthouseref01_Quote.f k a) (t, quoP a) := by
  obtain ⟨at', hat⟩ := Runes_tot a (by omega)
  have hlen := runesL_len a a.size 0
  have T : Tot (fun k => malthouseref01_Quote.j0 k a true a (runesL a a.size 0) at') ((⟨#[]⟩ : ByteArray), false) := Tot.succ (by simp only [malthouseref01_Quote.j0, if_true]; exact Tot.const _)
  unfold quoP
  cases ho : okL a a.size 0 with
  | false =>
    rw [ho] at hat
    refine ⟨(⟨#[]⟩ : ByteArray), Tot.bind hat ?_⟩
    simp only [ff, Bool.false_and]; exact T
  | true =>
  rw [ho] at hat
  by_cases hc : ((runesL a a.size 0).length : Int) > 20
  · refine ⟨(⟨#[]⟩ : ByteArray), Tot.bind hat ?_⟩
    simp only [if_true, decide_eq_true hc, decide_eq_false (show ¬ (runesL a a.size 0).length ≤ 20 by omega), Bool.true_and, Bool.false_and]; exact T
  · obtain ⟨t, ht⟩ := Quote_l0 (runesL a a.size 0) at' a a h (by omega) (runesL a a.size 0).length 0 (by omega)
    rw [List.drop_zero] at ht
    refine ⟨t, Tot.bind hat ?_⟩
    simp only [if_true, decide_eq_false hc, decide_eq_true (show (runesL a a.size 0).length ≤ 20 by omega), Bool.true_and]
    exact Tot.succ (by simp only [malthouseref01_Quote.j0, ff]; exact ht)
def blankB (e : S34) : Bool := decide (e.f0 = 0 ∧ e.f1 = 0 ∧ e.f2.toList = ([] : List UInt8) ∧ (e.f3.length : Int) = 0)
def formP (s : S67) : Bool := decide (0 ≤ s.f0 ∧ s.f0 ≤ 7 ∧ (s.f0 = 1 ∨ s.f0 = 2 ∨ s.f0 = 6 → s.f1.toList = ([] : List UInt8)) ∧ (s.f0 ≠ 3 ∧ s.f0 ≠ 5 → s.f2.toList = ([] : List UInt8)) ∧ (s.f0 = 6 ∨ s.f0 = 7 → blankB s.f3 = true) ∧ (s.f0 ≠ 6 → s.f4 = 0))
def namP (outs ves : List ByteArray) (s : S67) (len : Int) : Int :=
  if s.f0 = 0 then (if inL outs s.f1 = true then 0 else 4)
  else if s.f0 = 3 then (if inL ves s.f1 = true then (if nameP s.f2 = true then 0 else 1) else 4)
  else if s.f0 = 4 then (if inL ves s.f1 = true then 0 else 4)
  else if s.f0 = 5 then (if inL ves s.f1 = true then (if inL ves s.f2 = true then (if s.f1.toList = s.f2.toList then 1 else 0) else 4) else 4)
  else if s.f0 = 7 then (if quoP s.f1 = true then 0 else 1)
  else if s.f0 = 6 then (if s.f4 < 0 ∨ s.f4 > len then 1 else 0) else 0
open Classical in
noncomputable def knownP (cells : List ByteArray) (x : S34) : Bool := if ∀ y, mayP x = true ∧ NmIn x y → inL cells y = true then true else false
noncomputable def expP (cells : List ByteArray) (s : S67) : Int := if reck s.f0 = true then (if mayP s.f3 = true then (if knownP cells s.f3 = true then 0 else 4) else 1) else 0
noncomputable def stepE (outs ves cells : List ByteArray) (s : S67) (len : Int) : Int := if formP s = true then (if namP outs ves s len = 0 then expP cells s else namP outs ves s len) else 1
theorem known_all {cells : List ByteArray} {x : S34} {l : List ByteArray} (h : ∀ y, y ∈ l ↔ mayP x = true ∧ NmIn x y) : knownP cells x = l.all (inL cells) := by
  unfold knownP
  by_cases c : ∀ y, mayP x = true ∧ NmIn x y → inL cells y = true
  · rw [if_pos c]
    exact (List.all_eq_true.mpr fun y hy => c y ((h y).mp hy)).symm
  · rw [if_neg c]
    cases e : l.all (inL cells) with
    | false => rfl
    | true => exact absurd (fun y hy => List.all_eq_true.mp e y ((h y).mpr hy)) c
theorem docForm (s : S67) : Tot (fun k => malthouseref11_form.f k s.f0 s.f1 s.f2 s.f3.f0 s.f3.f1 s.f3.f2 s.f3.f3 s.f4) (formP s) := by
  have R : malthouseref11_reckons.f s.f0 = some (reck s.f0) := by
    unfold malthouseref11_reckons.f reck
    by_cases h0 : s.f0 = 0
    · rw [if_pos h0, decide_eq_true (by omega)]
    by_cases h1 : s.f0 = 1
    · rw [if_neg h0, if_pos h1, decide_eq_true (by omega)]
    by_cases h2 : s.f0 = 2
    · rw [if_neg h0, if_neg h1, if_pos h2, decide_eq_true (by omega)]
    by_cases h3 : s.f0 = 3
    · rw [if_neg h0, if_neg h1, if_neg h2, if_pos h3, decide_eq_true (by omega)]
    by_cases h4 : s.f0 = 4
    · rw [if_neg h0, if_neg h1, if_neg h2, if_neg h3, if_pos h4, decide_eq_true (by omega)]
    by_cases h5 : s.f0 = 5
    · rw [if_neg h0, if_neg h1, if_neg h2, if_neg h3, if_neg h4, decide_eq_true (by omega)]; simp [h5]
    · rw [if_neg h0, if_neg h1, if_neg h2, if_neg h3, if_neg h4, decide_eq_false (by omega)]; simp [h5]
  have J2 : ∀ v : Bool, (v = true ↔ (s.f0 ≠ 3 ∧ s.f0 ≠ 5 → s.f2.toList = ([] : List UInt8)) ∧ (s.f0 = 1 ∨ s.f0 = 2 ∨ s.f0 = 6 → s.f1.toList = ([] : List UInt8))) → Tot (fun k => malthouseref11_form.j2 k false s.f0 s.f1 s.f2 s.f3.f0 s.f3.f1 s.f3.f2 s.f3.f3 s.f4) v := fun v hv => by
    have N : ∀ v : Bool, (v = true ↔ (s.f0 = 1 ∨ s.f0 = 2 ∨ s.f0 = 6 → s.f1.toList = ([] : List UInt8))) → (if s.f1.toList = ([] : List UInt8) then some true else if s.f0 = 1 then some false else if s.f0 = 2 then some false else some (s.f0 != 6)) = some v := fun v hv => by
      by_cases n : s.f1.toList = ([] : List UInt8)
      · rw [if_pos n, hv.mpr (fun _ => n)]
      rw [if_neg n]
      by_cases h1 : s.f0 = 1
      · rw [if_pos h1]
        cases v with
        | false => rfl
        | true => exact absurd (hv.mp rfl (.inl h1)) n
      rw [if_neg h1]
      by_cases h2 : s.f0 = 2
      · rw [if_pos h2]
        cases v with
        | false => rfl
        | true => exact absurd (hv.mp rfl (.inr (.inl h2))) n
      rw [if_neg h2]
      by_cases h6 : s.f0 = 6
      · cases v with
        | false => simp [h6]
        | true => exact absurd (hv.mp rfl (.inr (.inr h6))) n
      · rw [hv.mpr (fun h => absurd h (by omega))]; simp [h6]
    refine Tot.succ ?_
    simp only [malthouseref11_form.j2, ff]
    by_cases e : s.f2.toList = ([] : List UInt8)
    · simp only [if_pos e]
      rw [N v (hv.trans ⟨fun h => h.2, fun h => ⟨fun _ => e, h⟩⟩)]; exact Tot.const _
    simp only [if_neg e]
    by_cases h3 : s.f0 = 3
    · simp only [if_pos h3]
      have := N v (hv.trans ⟨fun h => h.2, fun h => ⟨fun g => absurd h3 g.1, h⟩⟩)
      rw [this]; exact Tot.const _
    simp only [if_neg h3]
    by_cases h5 : s.f0 = 5
    · simp only [if_pos h5]
      have := N v (hv.trans ⟨fun h => h.2, fun h => ⟨fun g => absurd h5 g.2, h⟩⟩)
      rw [this]; exact Tot.const _
    simp only [if_neg h5]
    cases v with
    | false => exact Tot.const _
    | true => exact absurd ((hv.mp rfl).1 ⟨h3, h5⟩) e
  have J2t : Tot (fun k => malthouseref11_form.j2 k true s.f0 s.f1 s.f2 s.f3.f0 s.f3.f1 s.f3.f2 s.f3.f3 s.f4) false := Tot.succ (by simp only [malthouseref11_form.j2, if_true]; exact Tot.const _)
  have J1t : Tot (fun k => malthouseref11_form.j1 k true s.f0 s.f1 s.f2 s.f3.f0 s.f3.f1 s.f3.f2 s.f3.f3 s.f4) false := Tot.succ (by simp only [malthouseref11_form.j1, if_true]; exact Tot.const _)
  have J1 : ∀ v : Bool, (v = true ↔ (s.f0 ≠ 3 ∧ s.f0 ≠ 5 → s.f2.toList = ([] : List UInt8)) ∧ (s.f0 = 1 ∨ s.f0 = 2 ∨ s.f0 = 6 → s.f1.toList = ([] : List UInt8)) ∧ (s.f0 ≠ 6 → s.f4 = 0)) → Tot (fun k => malthouseref11_form.j1 k false s.f0 s.f1 s.f2 s.f3.f0 s.f3.f1 s.f3.f2 s.f3.f3 s.f4) v := fun v hv => by
    refine Tot.succ ?_
    simp only [malthouseref11_form.j1, ff]
    by_cases n : s.f4 = 0
    · simp only [if_pos n]
      exact J2 v (hv.trans ⟨fun h => ⟨h.1, h.2.1⟩, fun h => ⟨h.1, h.2, fun _ => n⟩⟩)
    · simp only [if_neg n]
      by_cases h6 : s.f0 = 6
      · rw [show (s.f0 != 6) = false by simp [h6]]
        exact J2 v (hv.trans ⟨fun h => ⟨h.1, h.2.1⟩, fun h => ⟨h.1, h.2, fun g => absurd h6 g⟩⟩)
      · rw [show (s.f0 != 6) = true by simp [h6]]
        cases v with
        | false => exact J2t
        | true => exact absurd ((hv.mp rfl).2.2 h6) n
  have J0 : Tot (fun k => malthouseref11_form.j0 k (blankB s.f3) s.f0 s.f1 s.f2 s.f3.f0 s.f3.f1 s.f3.f2 s.f3.f3 s.f4) (formP s) := by
    refine Tot.succ ?_
    simp only [malthouseref11_form.j0, R, Option.bind_some]
    unfold formP
    by_cases r0 : s.f0 < 0
    · simp only [if_pos r0]
      rw [decide_eq_false (fun h => by omega)]; exact J1t
    by_cases r7 : s.f0 > 7
    · simp only [if_neg r0, if_pos r7]
      rw [decide_eq_false (fun h => by omega)]; exact J1t
    simp only [if_neg r0, if_neg r7]
    by_cases hr : reck s.f0 = true
    · simp only [if_pos hr]
      have hr2 : 0 ≤ s.f0 ∧ s.f0 ≤ 5 := of_decide_eq_true hr
      refine J1 _ ?_
      rw [decide_eq_true_eq]
      exact ⟨fun h => ⟨h.2.2.2.1, h.2.2.1, h.2.2.2.2.2⟩, fun h => ⟨by omega, by omega, h.2.1, h.1, fun g => by omega, h.2.2⟩⟩
    · simp only [if_neg hr]
      have hr2 : ¬ (0 ≤ s.f0 ∧ s.f0 ≤ 5) := fun h => hr (decide_eq_true h)
      cases hb : blankB s.f3 with
      | true =>
        refine J1 _ ?_
        rw [decide_eq_true_eq]
        exact ⟨fun h => ⟨h.2.2.2.1, h.2.2.1, h.2.2.2.2.2⟩, fun h => ⟨by omega, by omega, h.2.1, h.1, fun _ => rfl, h.2.2⟩⟩
      | false =>
        rw [decide_eq_false (fun h => by have := h.2.2.2.2.1 (by omega); cases this)]; exact J1t
  unfold malthouseref11_form.f
  unfold blankB at J0
  by_cases c1 : s.f3.f0 = 0
  · by_cases c2 : s.f3.f1 = 0
    · by_cases c3 : s.f3.f2.toList = ([] : List UInt8)
      · by_cases c4 : (s.f3.f3.length : Int) = 0
        · rw [decide_eq_true ⟨c1, c2, c3, c4⟩] at J0
          simp only [if_pos c1, if_pos c2, if_pos c3, show ((s.f3.f3.length : Int) == 0) = true from beq_iff_eq.mpr c4]; exact J0
        · rw [decide_eq_false (fun h => c4 h.2.2.2)] at J0
          simp only [if_pos c1, if_pos c2, if_pos c3, show ((s.f3.f3.length : Int) == 0) = false from beq_eq_false_iff_ne.mpr c4]; exact J0
      · rw [decide_eq_false (fun h => c3 h.2.2.1)] at J0
        simp only [if_pos c1, if_pos c2, if_neg c3]; exact J0
    · rw [decide_eq_false (fun h => c2 h.2.1)] at J0
      simp only [if_pos c1, if_neg c2]; exact J0
  · rw [decide_eq_false (fun h => c1 h.1)] at J0
    simp only [if_neg c1]; exact J0
theorem docNamed (outs ves : List ByteArray) (s : S67) (len : Int) (ho : outs.length < 9223372036854775807) (hv : ves.length < 9223372036854775807) (h1 : s.f1.size ≤ 200) (h2 : s.f2.size ≤ 200) : Tot (fun k => malthouseref11_named.f k s.f0 s.f1 s.f2 s.f3.f0 s.f3.f1 s.f3.f2 s.f3.f3 s.f4 len outs ves) (namP outs ves s len) := by
  unfold malthouseref11_named.f namP
  by_cases o0 : s.f0 = 0
  · simp only [if_pos o0]
    refine Tot.bind (hasB outs s.f1 ho) ?_
    by_cases c : inL outs s.f1 = true
    · simp only [if_pos c]; exact Tot.const _
    · simp only [if_neg c]; exact Tot.const _
  by_cases o3 : s.f0 = 3
  · simp only [if_neg o0, if_pos o3]
    refine Tot.bind (hasB ves s.f1 hv) (Tot.bind (docName_tot s.f2 (by omega)) ?_)
    by_cases c : inL ves s.f1 = true
    · by_cases d : nameP s.f2 = true
      · simp only [if_pos c, if_pos d]; exact Tot.const _
      · simp only [if_pos c, if_neg d]; exact Tot.const _
    · simp only [if_neg c]; exact Tot.const _
  by_cases o4 : s.f0 = 4
  · simp only [if_neg o0, if_neg o3, if_pos o4]
    refine Tot.bind (hasB ves s.f1 hv) ?_
    by_cases c : inL ves s.f1 = true
    · simp only [if_pos c]; exact Tot.const _
    · simp only [if_neg c]; exact Tot.const _
  by_cases o5 : s.f0 = 5
  · simp only [if_neg o0, if_neg o3, if_neg o4, if_pos o5]
    refine Tot.bind (hasB ves s.f1 hv) (Tot.bind (hasB ves s.f2 hv) ?_)
    have T : Tot (fun k => malthouseref11_named.j0 k true s.f0 s.f1 s.f2 s.f3.f0 s.f3.f1 s.f3.f2 s.f3.f3 s.f4) 4 := Tot.succ (by simp only [malthouseref11_named.j0, if_true]; exact Tot.const _)
    by_cases c : inL ves s.f1 = true
    · simp only [if_pos c]
      cases inL ves s.f2 with
      | true =>
        simp only [if_true, Bool.not_true]
        refine Tot.succ ?_
        simp only [malthouseref11_named.j0, ff]
        by_cases g : s.f1.toList = s.f2.toList
        · simp only [if_pos g]; exact Tot.const _
        · simp only [if_neg g]; exact Tot.const _
      | false => simp only [ff, Bool.not_false]; exact T
    · simp only [if_neg c]; exact T
  by_cases o7 : s.f0 = 7
  · obtain ⟨t, ht⟩ := quoB s.f1 h1
    simp only [if_neg o0, if_neg o3, if_neg o4, if_neg o5, if_pos o7]
    refine Tot.bind ht ?_
    by_cases c : quoP s.f1 = true
    · simp only [if_pos c]; exact Tot.const _
    · simp only [if_neg c]; exact Tot.const _
  by_cases o6 : s.f0 = 6
  · simp only [if_neg o0, if_neg o3, if_neg o4, if_neg o5, if_neg o7, if_pos o6]
    by_cases c : s.f4 < 0
    · simp only [if_pos c, if_pos (show s.f4 < 0 ∨ s.f4 > len from .inl c)]; exact Tot.const _
    · by_cases d : s.f4 > len
      · simp only [if_neg c, if_pos d, if_pos (show s.f4 < 0 ∨ s.f4 > len from .inr d)]; exact Tot.const _
      · simp only [if_neg c, if_neg d, if_neg (show ¬ (s.f4 < 0 ∨ s.f4 > len) from fun h => h.elim c d)]; exact Tot.const _
  · simp only [if_neg o0, if_neg o3, if_neg o4, if_neg o5, if_neg o7, if_neg o6]; exact Tot.const _
def usesP (op : Int) : Bool × Bool × Bool × Bool × Bool :=
  if op = 0 ∨ op = 4 then (true, false, true, false, true) else if op = 1 ∨ op = 2 then (false, false, true, false, true) else if op = 3 ∨ op = 5 then (true, true, true, false, true)
  else if op = 6 then (false, false, false, true, true) else if op = 7 then (true, false, false, false, true) else (false, false, false, false, false)
theorem usesA (op : Int) : Tot (fun k => prog_uses.f k op) (usesP op) := by
  have J2 : ∀ b : Bool, Tot (fun k => prog_uses.j2 k op b) (if b = true then (true, true, true, false, true) else if op = 6 then (false, false, false, true, true) else if op = 7 then (true, false, false, false, true) else (false, false, false, false, false)) := fun b => by
    refine Tot.succ ?_
    cases b with
    | true => simp only [prog_uses.j2, if_true]; exact Tot.const _
    | false =>
      by_cases h6 : op = 6
      · simp only [prog_uses.j2, ff, if_pos h6]; exact Tot.const _
      by_cases h7 : op = 7
      · simp only [prog_uses.j2, ff, if_neg h6, if_pos h7]; exact Tot.const _
      · simp only [prog_uses.j2, ff, if_neg h6, if_neg h7]; exact Tot.const _
  have J1 : ∀ b : Bool, Tot (fun k => prog_uses.j1 k op b) (if b = true then (false, false, true, false, true) else if op = 3 ∨ op = 5 then (true, true, true, false, true) else if op = 6 then (false, false, false, true, true) else if op = 7 then (true, false, false, false, true) else (false, false, false, false, false)) := fun b => by
    refine Tot.succ ?_
    cases b with
    | true => simp only [prog_uses.j1, if_true]; exact Tot.const _
    | false =>
      by_cases h3 : op = 3
      · have := J2 true
        simp only [if_true] at this
        simp only [prog_uses.j1, ff, if_pos h3, show (op == 3) = true from beq_iff_eq.mpr h3, if_pos (show op = 3 ∨ op = 5 from .inl h3)]; exact this
      by_cases h5 : op = 5
      · have := J2 true
        simp only [if_true] at this
        simp only [prog_uses.j1, ff, if_neg h3, show (op == 5) = true from beq_iff_eq.mpr h5, if_pos (show op = 3 ∨ op = 5 from .inr h5)]; exact this
      · have := J2 false
        simp only [ff] at this
        simp only [prog_uses.j1, ff, if_neg h3, show (op == 5) = false from beq_eq_false_iff_ne.mpr h5, if_neg (show ¬ (op = 3 ∨ op = 5) from fun h => h.elim h3 h5)]; exact this
  have J0 : ∀ b : Bool, Tot (fun k => prog_uses.j0 k op b) (if b = true then (true, false, true, false, true) else if op = 1 ∨ op = 2 then (false, false, true, false, true) else if op = 3 ∨ op = 5 then (true, true, true, false, true) else if op = 6 then (false, false, false, true, true) else if op = 7 then (true, false, false, false, true) else (false, false, false, false, false)) := fun b => by
    refine Tot.succ ?_
    cases b with
    | true => simp only [prog_uses.j0, if_true]; exact Tot.const _
    | false =>
      by_cases h3 : op = 1
      · have := J1 true
        simp only [if_true] at this
        simp only [prog_uses.j0, ff, if_pos h3, show (op == 1) = true from beq_iff_eq.mpr h3, if_pos (show op = 1 ∨ op = 2 from .inl h3)]; exact this
      by_cases h5 : op = 2
      · have := J1 true
        simp only [if_true] at this
        simp only [prog_uses.j0, ff, if_neg h3, show (op == 2) = true from beq_iff_eq.mpr h5, if_pos (show op = 1 ∨ op = 2 from .inr h5)]; exact this
      · have := J1 false
        simp only [ff] at this
        simp only [prog_uses.j0, ff, if_neg h3, show (op == 2) = false from beq_eq_false_iff_ne.mpr h5, if_neg (show ¬ (op = 1 ∨ op = 2) from fun h => h.elim h3 h5)]; exact this
  unfold prog_uses.f usesP
  by_cases h0 : op = 0
  · have := J0 true
    simp only [if_true] at this
    simp only [if_pos h0, show (op == 0) = true from beq_iff_eq.mpr h0, if_pos (show op = 0 ∨ op = 4 from .inl h0)]; exact this
  by_cases h4 : op = 4
  · have := J0 true
    simp only [if_true] at this
    simp only [if_neg h0, show (op == 4) = true from beq_iff_eq.mpr h4, if_pos (show op = 0 ∨ op = 4 from .inr h4)]; exact this
  · have := J0 false
    simp only [ff] at this
    simp only [if_neg h0, show (op == 4) = false from beq_eq_false_iff_ne.mpr h4, if_neg (show ¬ (op = 0 ∨ op = 4) from fun h => h.elim h0 h4)]; exact this
theorem blankA (e : S34) : prog_blank.f e.f0 e.f1 e.f2 e.f3 = some (blankB e) := by
  unfold prog_blank.f blankB
  by_cases c1 : e.f0 = 0
  · by_cases c2 : e.f1 = 0
    · by_cases c3 : e.f2.toList = ([] : List UInt8)
      · by_cases c4 : (e.f3.length : Int) = 0
        · rw [decide_eq_true ⟨c1, c2, c3, c4⟩, if_pos c1, if_pos c2, if_pos c3, show ((e.f3.length : Int) == 0) = true from beq_iff_eq.mpr c4]
        · rw [decide_eq_false (fun h => c4 h.2.2.2), if_pos c1, if_pos c2, if_pos c3, show ((e.f3.length : Int) == 0) = false from beq_eq_false_iff_ne.mpr c4]
      · rw [decide_eq_false (fun h => c3 h.2.2.1), if_pos c1, if_pos c2, if_neg c3]
    · rw [decide_eq_false (fun h => c2 h.2.1), if_pos c1, if_neg c2]
  · rw [decide_eq_false (fun h => c1 h.1), if_neg c1]
theorem loopA (outs ves cells l : List ByteArray) (hc : cells.length < 9223372036854775807) (hl : l.length < 9223372036854775807) : ∀ (n i : Nat), i + n = l.length → Tot (fun k => prog_names_step.l0 k l (l.length : Int) (i : Int) outs ves cells) (if (l.drop i).all (inL cells) = true then 0 else 4)
  | 0, i, e => by
    refine Tot.succ ?_
    simp only [prog_names_step.l0, if_neg (show ¬ (i : Int) < (l.length : Int) by omega)]
    rw [List.drop_eq_nil_of_le (by omega)]; exact Tot.const _
  | n + 1, i, e => by
    refine Tot.succ ?_
    simp only [prog_names_step.l0, if_pos (show (i : Int) < (l.length : Int) by omega), if_pos (show 0 ≤ (i : Int) by omega), w1 (show 0 ≤ (i : Int) by omega) (show (i : Int) < 9223372036854775807 by omega)]
    rw [drop_rd ByteArray.empty (show i < l.length by omega), List.all_cons]
    refine Tot.bind (hasA cells _ hc) ?_
    cases inL cells (rdOf ByteArray.empty l (i : Int)) with
    | true => simp only [if_true, Bool.true_and]; exact loopA outs ves cells l hc hl n (i + 1) (by omega)
    | false => simp only [ff, Bool.false_and]; exact Tot.const _
theorem stepA (outs ves cells : List ByteArray) (s : S67) (len : Int) (ho : outs.length < 9223372036854775807) (hv : ves.length < 9223372036854775807) (hc : cells.length < 9223372036854775807) (h1 : s.f1.size ≤ 200) (h2 : s.f2.size ≤ 200) (hE : OkE s.f3) :
    Tot (fun k => prog_names_step.f k outs ves cells s.f0 s.f1 s.f2 s.f3.f0 s.f3.f1 s.f3.f2 s.f3.f3 s.f4 len) (stepE outs ves cells s len) := by
  have J3 : Tot (fun k => prog_names_step.j3 k (reck s.f0) outs ves cells s.f0 s.f1 s.f2 s.f3.f0 s.f3.f1 s.f3.f2 s.f3.f3 s.f4) (expP cells s) := by
    refine Tot.succ ?_
    simp only [prog_names_step.j3]
    unfold expP
    by_cases hr : reck s.f0 = true
    · simp only [if_pos hr]
      refine Tot.bind (may_both hE).1 ?_
      by_cases hm : mayP s.f3 = true
      · simp only [if_pos hm]
        obtain ⟨l, hl, ll, lm⟩ := namesA_tot hE
        refine Tot.bind hl ?_
        have := loopA outs ves cells l hc (by omega) l.length 0 (by omega)
        rw [List.drop_zero, ← known_all lm] at this; exact this
      · simp only [if_neg hm]; exact Tot.const _
    · simp only [if_neg hr]; exact Tot.const _
  have J2t : Tot (fun k => prog_names_step.j2 k (reck s.f0) true outs ves cells s.f0 s.f1 s.f2 s.f3.f0 s.f3.f1 s.f3.f2 s.f3.f3 s.f4) 4 := Tot.succ (by simp only [prog_names_step.j2, if_true]; exact Tot.const _)
  have J0t : Tot (fun k => prog_names_step.j0 k len (reck s.f0) true outs ves cells s.f0 s.f1 s.f2 s.f3.f0 s.f3.f1 s.f3.f2 s.f3.f3 s.f4) 1 := Tot.succ (by simp only [prog_names_step.j0, if_true]; exact Tot.const _)
  have J1 : s.f0 ≠ 0 → ∀ b : Bool, b = decide (s.f0 = 3 ∨ s.f0 = 4 ∨ s.f0 = 5) → Tot (fun k => prog_names_step.j1 k len (reck s.f0) s.f0 b outs ves cells s.f0 s.f1 s.f2 s.f3.f0 s.f3.f1 s.f3.f2 s.f3.f3 s.f4) (if namP outs ves s len = 0 then expP cells s else namP outs ves s len) := fun o0 b hb => by
    refine Tot.succ ?_
    simp only [prog_names_step.j1]
    unfold namP
    by_cases hw : s.f0 = 3 ∨ s.f0 = 4 ∨ s.f0 = 5
    · have hbt : b = true := by rw [hb]; exact decide_eq_true hw
      simp only [hbt, if_true, if_neg o0]
      refine Tot.bind (hasA ves s.f1 hv) ?_
      by_cases c : inL ves s.f1 = true
      rotate_left
      · simp only [if_neg c]
        have e : ∀ q3 q4 q5 q : Int, (if s.f0 = 3 then 4 else if s.f0 = 4 then 4 else if s.f0 = 5 then 4 else q) = (4 : Int) := fun _ _ _ q => by
          rcases hw with h | h | h
          · rw [if_pos h]
          · rw [if_neg (by omega), if_pos h]
          · rw [if_neg (by omega), if_neg (by omega), if_pos h]
        rw [e 0 0 0, if_neg (by decide)]; exact J2t
      simp only [if_pos c]
      by_cases o5 : s.f0 = 5
      · simp only [if_pos o5, if_neg (show ¬ s.f0 = 3 by omega), if_neg (show ¬ s.f0 = 4 by omega)]
        refine Tot.bind (hasA ves s.f2 hv) ?_
        cases inL ves s.f2 with
        | false => simp only [ff, Bool.not_false, if_neg (show ¬ (4 : Int) = 0 by decide)]; exact J2t
        | true =>
          simp only [Bool.not_true, if_true]
          refine Tot.succ ?_
          simp only [prog_names_step.j2, ff, if_neg (show ¬ s.f0 = 3 by omega), if_pos o5]
          by_cases g : s.f1.toList = s.f2.toList
          · simp only [if_pos g, if_pos g.symm, if_neg (show ¬ (1 : Int) = 0 by decide)]; exact Tot.const _
          · simp only [if_neg g, if_neg (fun e : s.f2.toList = _ => g e.symm), if_true]; exact J3
      simp only [if_neg o5]
      refine Tot.succ ?_
      simp only [prog_names_step.j2, ff, if_neg o5]
      by_cases o3 : s.f0 = 3
      · simp only [if_pos o3, lexName_eq s.f2 (by omega), Option.bind_some]
        by_cases d : nameP s.f2 = true
        · simp only [if_pos d, if_true]; exact J3
        · simp only [if_neg d, if_neg (show ¬ (1 : Int) = 0 by decide)]; exact Tot.const _
      · simp only [if_neg o3, if_pos (show s.f0 = 4 by omega), if_true]; exact J3
    · have hbf : b = false := by rw [hb]; exact decide_eq_false hw
      simp only [hbf, ff, if_neg o0, if_neg (show ¬ s.f0 = 3 by omega), if_neg (show ¬ s.f0 = 4 by omega), if_neg (show ¬ s.f0 = 5 by omega)]
      by_cases o7 : s.f0 = 7
      · obtain ⟨t, ht⟩ := quoA s.f1 h1
        simp only [if_pos o7, ht, Option.bind_some]
        by_cases c : quoP s.f1 = true
        · simp only [if_pos c, if_true]; exact J3
        · simp only [if_neg c, if_neg (show ¬ (1 : Int) = 0 by decide)]; exact Tot.const _
      by_cases o6 : s.f0 = 6
      · simp only [if_neg o7, if_pos o6]
        by_cases c : s.f4 < 0
        · simp only [if_pos c, if_pos (show s.f4 < 0 ∨ s.f4 > len from .inl c), if_neg (show ¬ (1 : Int) = 0 by decide)]; exact Tot.const _
        · by_cases d : s.f4 > len
          · simp only [if_neg c, if_pos d, if_pos (show s.f4 < 0 ∨ s.f4 > len from .inr d), if_neg (show ¬ (1 : Int) = 0 by decide)]; exact Tot.const _
          · simp only [if_neg c, if_neg d, if_neg (show ¬ (s.f4 < 0 ∨ s.f4 > len) from fun h => h.elim c d), if_true]; exact J3
      · simp only [if_neg o7, if_neg o6, if_true]; exact J3
  have J0 : Tot (fun k => prog_names_step.j0 k len (reck s.f0) false outs ves cells s.f0 s.f1 s.f2 s.f3.f0 s.f3.f1 s.f3.f2 s.f3.f3 s.f4) (if namP outs ves s len = 0 then expP cells s else namP outs ves s len) := by
    refine Tot.succ ?_
    simp only [prog_names_step.j0, ff]
    by_cases o0 : s.f0 = 0
    · simp only [if_pos o0]
      unfold namP
      simp only [if_pos o0]
      refine Tot.bind (hasA outs s.f1 ho) ?_
      by_cases c : inL outs s.f1 = true
      · simp only [if_pos c, if_true]; exact J3
      · simp only [if_neg c, if_neg (show ¬ (4 : Int) = 0 by decide)]; exact Tot.const _
    simp only [if_neg o0]
    by_cases o3 : s.f0 = 3
    · simp only [if_pos o3]; exact J1 o0 _ (by simp [o3])
    by_cases o4 : s.f0 = 4
    · simp only [if_neg o3, if_pos o4]; exact J1 o0 _ (by simp [o4])
    · simp only [if_neg o3, if_neg o4]; exact J1 o0 _ (by by_cases o5 : s.f0 = 5 <;> simp [o3, o4, o5])
  -- the form
  have er : ∀ b : Bool, reck s.f0 = b → (b = true ↔ (0 ≤ s.f0 ∧ s.f0 ≤ 5)) := fun b hb => by rw [← hb]; unfold reck; exact decide_eq_true_iff
  unfold prog_names_step.f stepE
  refine Tot.bind (usesA s.f0) ?_
  simp only [blankA, Option.bind_some]
  have NZ : ∀ b : Bool, b = (s.f4 != 0) → (s.f0 ≠ 6) → ((0 ≤ s.f0 ∧ s.f0 ≤ 7 ∧ (s.f0 = 1 ∨ s.f0 = 2 ∨ s.f0 = 6 → s.f1.toList = ([] : List UInt8)) ∧ (s.f0 ≠ 3 ∧ s.f0 ≠ 5 → s.f2.toList = ([] : List UInt8)) ∧ (s.f0 = 6 ∨ s.f0 = 7 → blankB s.f3 = true))) → Tot (fun k => prog_names_step.j0 k len (reck s.f0) b outs ves cells s.f0 s.f1 s.f2 s.f3.f0 s.f3.f1 s.f3.f2 s.f3.f3 s.f4) (if formP s = true then (if namP outs ves s len = 0 then expP cells s else namP outs ves s len) else 1) := fun b hb h6 hf => by
    by_cases n : s.f4 = 0
    · have e1 : b = false := by rw [hb]; simp [n]
      have e2 : formP s = true := decide_eq_true ⟨hf.1, hf.2.1, hf.2.2.1, hf.2.2.2.1, hf.2.2.2.2, fun _ => n⟩
      rw [e1, if_pos e2]; exact J0
    · have e1 : b = true := by rw [hb]; simp [n]
      have e2 : ¬ formP s = true := fun h => n ((of_decide_eq_true h).2.2.2.2.2 h6)
      rw [e1, if_neg e2]; exact J0t
  by_cases a1 : s.f0 = 0 ∨ s.f0 = 4
  · have eu : usesP s.f0 = (true, false, true, false, true) := by unfold usesP; rw [if_pos a1]
    have eR : reck s.f0 = true := (er _ rfl).mpr (by omega)
    rw [eR] at J0 J0t NZ
    simp only [eu, if_true, ff]
    by_cases e : s.f2.toList = ([] : List UInt8)
    · simp only [if_pos e]; exact NZ _ rfl (by omega) ⟨by omega, by omega, fun h => by omega, fun _ => e, fun h => by omega⟩
    · have e2 : ¬ formP s = true := fun h => e ((of_decide_eq_true h).2.2.2.1 (by omega))
      simp only [if_neg e, if_neg e2]; exact J0t
  by_cases a2 : s.f0 = 1 ∨ s.f0 = 2
  · have eu : usesP s.f0 = (false, false, true, false, true) := by unfold usesP; rw [if_neg a1, if_pos a2]
    have eR : reck s.f0 = true := (er _ rfl).mpr (by omega)
    rw [eR] at J0 J0t NZ
    simp only [eu, if_true, ff]
    by_cases g : s.f1.toList = ([] : List UInt8)
    · by_cases e : s.f2.toList = ([] : List UInt8)
      · simp only [if_pos g, if_pos e]; exact NZ _ rfl (by omega) ⟨by omega, by omega, fun _ => g, fun _ => e, fun h => by omega⟩
      · have e2 : ¬ formP s = true := fun h => e ((of_decide_eq_true h).2.2.2.1 (by omega))
        simp only [if_pos g, if_neg e, if_neg e2]; exact J0t
    · have e2 : ¬ formP s = true := fun h => g ((of_decide_eq_true h).2.2.1 (by omega))
      simp only [if_neg g, if_neg e2]; exact J0t
  by_cases a3 : s.f0 = 3 ∨ s.f0 = 5
  · have eu : usesP s.f0 = (true, true, true, false, true) := by unfold usesP; rw [if_neg a1, if_neg a2, if_pos a3]
    have eR : reck s.f0 = true := (er _ rfl).mpr (by omega)
    rw [eR] at J0 J0t NZ
    simp only [eu, if_true, ff]
    exact NZ _ rfl (by omega) ⟨by omega, by omega, fun h => by omega, fun h => by omega, fun h => by omega⟩
  by_cases a4 : s.f0 = 6
  · have eu : usesP s.f0 = (false, false, false, true, true) := by unfold usesP; rw [if_neg a1, if_neg a2, if_neg a3, if_pos a4]
    have eR : reck s.f0 = false := decide_eq_false (by omega)
    rw [eR] at J0 J0t NZ
    simp only [eu, if_true, ff]
    by_cases g : s.f1.toList = ([] : List UInt8)
    · by_cases e : s.f2.toList = ([] : List UInt8)
      · by_cases hb : blankB s.f3 = true
        · have e2 : formP s = true := decide_eq_true ⟨by omega, by omega, fun _ => g, fun _ => e, fun _ => hb, fun h => absurd a4 h⟩
          simp only [if_pos g, if_pos e, if_pos hb, if_pos e2]; exact J0
        · have e2 : ¬ formP s = true := fun h => hb ((of_decide_eq_true h).2.2.2.2.1 (.inl a4))
          simp only [if_pos g, if_pos e, if_neg hb, if_neg e2]; exact J0t
      · have e2 : ¬ formP s = true := fun h => e ((of_decide_eq_true h).2.2.2.1 (by omega))
        simp only [if_pos g, if_neg e, if_neg e2]; exact J0t
    · have e2 : ¬ formP s = true := fun h => g ((of_decide_eq_true h).2.2.1 (by omega))
      simp only [if_neg g, if_neg e2]; exact J0t
  by_cases a5 : s.f0 = 7
  · have eu : usesP s.f0 = (true, false, false, false, true) := by unfold usesP; rw [if_neg a1, if_neg a2, if_neg a3, if_neg a4, if_pos a5]
    have eR : reck s.f0 = false := decide_eq_false (by omega)
    rw [eR] at J0 J0t NZ
    simp only [eu, if_true, ff]
    by_cases e : s.f2.toList = ([] : List UInt8)
    · by_cases hb : blankB s.f3 = true
      · simp only [if_pos e, if_pos hb]; exact NZ _ rfl (by omega) ⟨by omega, by omega, fun h => by omega, fun _ => e, fun _ => hb⟩
      · have e2 : ¬ formP s = true := fun h => hb ((of_decide_eq_true h).2.2.2.2.1 (.inr a5))
        simp only [if_pos e, if_neg hb, if_neg e2]; exact J0t
    · have e2 : ¬ formP s = true := fun h => e ((of_decide_eq_true h).2.2.2.1 (by omega))
      simp only [if_neg e, if_neg e2]; exact J0t
  · have eu : usesP s.f0 = (false, false, false, false, false) := by unfold usesP; rw [if_neg a1, if_neg a2, if_neg a3, if_neg a4, if_neg a5]
    have eR : reck s.f0 = false := decide_eq_false (by omega)
    rw [eR] at J0 J0t NZ
    have e2 : ¬ formP s = true := fun h => by have := of_decide_eq_true h; omega
    simp only [eu, ff, if_neg e2]; exact J0t
noncomputable def firstE (outs ves cells : List ByteArray) (len : Int) : List S67 → Int
  | [] => 0
  | s :: l => if stepE outs ves cells s len = 0 then firstE outs ves cells len l else stepE outs ves cells s len
theorem dropP {l : List S67} {i : Nat} (h : i < l.length) : l.drop i = rd_T67 l (i : Int) :: l.drop (i + 1) := by
  rw [List.drop_eq_getElem_cons h]
  unfold rd_T67; rw [Int.toNat_natCast, List.getD, List.getElem?_eq_getElem h]; rfl
theorem memP {l : List S67} {i : Nat} (h : i < l.length) : rd_T67 l (i : Int) ∈ l := by
  unfold rd_T67; rw [Int.toNat_natCast, List.getD, List.getElem?_eq_getElem h]; exact List.getElem_mem h
def OkS (s : S67) : Prop := OkE s.f3 ∧ s.f1.size ≤ 200 ∧ s.f2.size ≤ 200
noncomputable def checkP (outs ves cells : List ByteArray) (l : List S67) : Int := if (l.length : Int) > 16 then 2 else firstE outs ves cells l.length l
theorem checkA (outs ves cells : List ByteArray) (l : List S67) (ho : outs.length < 9223372036854775807) (hv : ves.length < 9223372036854775807) (hc : cells.length < 9223372036854775807) (hS : ∀ s ∈ l, OkS s) : Tot (fun k => prog_Check.f k l outs ves cells) (checkP outs ves cells l) := by
  unfold prog_Check.f checkP
  by_cases h : (l.length : Int) > 16
  · simp only [if_pos h]; exact Tot.const _
  simp only [if_neg h]
  have L : ∀ (n i : Nat), i + n = l.length → Tot (fun k => prog_Check.l0 k l outs ves cells l (l.length : Int) (i : Int)) (firstE outs ves cells l.length (l.drop i)) := by
    intro n
    induction n with
    | zero =>
      intro i e
      refine Tot.succ ?_
      simp only [prog_Check.l0, if_neg (show ¬ (i : Int) < (l.length : Int) by omega)]
      rw [List.drop_eq_nil_of_le (by omega)]; exact Tot.const _
    | succ n ih =>
      intro i e
      have hi : i < l.length := by omega
      obtain ⟨s1, s2, s3⟩ := hS _ (memP hi)
      refine Tot.succ ?_
      simp only [prog_Check.l0, if_pos (show (i : Int) < (l.length : Int) by omega), if_pos (show 0 ≤ (i : Int) by omega), w1 (show 0 ≤ (i : Int) by omega) (show (i : Int) < 9223372036854775807 by omega)]
      rw [dropP hi, firstE]
      refine Tot.bind (stepA outs ves cells _ _ ho hv hc s2 s3 s1) ?_
      by_cases g : stepE outs ves cells (rd_T67 l (i : Int)) l.length = 0
      · simp only [if_pos g]; exact ih (i + 1) (by omega)
      · simp only [if_neg g]; exact Tot.const _
  exact L l.length 0 (by omega)
theorem checkB (outs ves cells : List ByteArray) (l : List S67) (ho : outs.length < 9223372036854775807) (hv : ves.length < 9223372036854775807) (hc : cells.length < 9223372036854775807) (hS : ∀ s ∈ l, OkS s) : Tot (fun k => malthouseref11_Check.f k l outs ves cells) (checkP outs ves cells l) := by
  unfold malthouseref11_Check.f checkP
  by_cases h : (l.length : Int) > 16
  · simp only [if_pos h]; exact Tot.const _
  simp only [if_neg h]
  have L : ∀ (n i : Nat), i + n = l.length → Tot (fun k => malthouseref11_Check.l0 k l outs ves cells (i : Int)) (firstE outs ves cells l.length (l.drop i)) := by
    intro n
    induction n with
    | zero =>
      intro i e
      refine Tot.succ ?_
      simp only [malthouseref11_Check.l0, if_neg (show ¬ (i : Int) < (l.length : Int) by omega)]
      rw [List.drop_eq_nil_of_le (by omega)]; exact Tot.const _
    | succ n ih =>
      intro i e
      have hi : i < l.length := by omega
      have hnext := ih (i + 1) (by omega)
      obtain ⟨s1, s2, s3⟩ := hS _ (memP hi)
      obtain ⟨nm, hnm, nl, nmem⟩ := namesB_tot s1
      have hall := known_all (cells := cells) nmem
      -- the names
      have NL : ∀ (m j : Nat), j + m = nm.length → Tot (fun k => malthouseref11_Check.l1 k l outs ves cells (i : Int) true nm (j : Int)) (if (nm.drop j).all (inL cells) = true then firstE outs ves cells l.length (l.drop (i + 1)) else 4) := by
        intro m
        induction m with
        | zero =>
          intro j e
          refine Tot.succ ?_
          simp only [malthouseref11_Check.l1, if_neg (show ¬ (j : Int) < (nm.length : Int) by omega)]
          refine Tot.succ ?_
          simp only [malthouseref11_Check.j3, ff, w1 (show 0 ≤ (i : Int) by omega) (show (i : Int) < 9223372036854775807 by omega)]
          rw [List.drop_eq_nil_of_le (by omega), List.all_nil]
          simp only [if_true]; exact hnext
        | succ m ihm =>
          intro j e
          refine Tot.succ ?_
          simp only [malthouseref11_Check.l1, if_pos (show (j : Int) < (nm.length : Int) by omega)]
          refine Tot.succ ?_
          simp only [malthouseref11_Check.j3, if_true, if_pos (show 0 ≤ (j : Int) by omega), if_pos (show (j : Int) < (nm.length : Int) by omega), w1 (show 0 ≤ (j : Int) by omega) (show (j : Int) < 9223372036854775807 by omega)]
          rw [drop_rd ByteArray.empty (show j < nm.length by omega), List.all_cons]
          refine Tot.bind (hasB cells _ hc) ?_
          cases inL cells (rdOf ByteArray.empty nm (j : Int)) with
          | true => simp only [if_true, Bool.true_and]; exact ihm (j + 1) (by omega)
          | false => simp only [ff, Bool.false_and]; exact Tot.const _
      have NF : Tot (fun k => malthouseref11_Check.l1 k l outs ves cells (i : Int) false nm 0) (firstE outs ves cells l.length (l.drop (i + 1))) := by
        refine Tot.succ ?_
        have J : Tot (fun k => malthouseref11_Check.j3 k l outs ves cells (i : Int) false nm 0 false) (firstE outs ves cells l.length (l.drop (i + 1))) := Tot.succ (by
          simp only [malthouseref11_Check.j3, ff, w1 (show 0 ≤ (i : Int) by omega) (show (i : Int) < 9223372036854775807 by omega)]; exact hnext)
        by_cases c : (0 : Int) < (nm.length : Int)
        · simp only [malthouseref11_Check.l1, if_pos c]; exact J
        · simp only [malthouseref11_Check.l1, if_neg c]; exact J
      have NT := NL nm.length 0 (by omega)
      rw [List.drop_zero, ← hall] at NT
      refine Tot.succ ?_
      simp only [malthouseref11_Check.l0, if_pos (show (i : Int) < (l.length : Int) by omega), if_pos (show 0 ≤ (i : Int) by omega)]
      rw [dropP hi, firstE]
      have RK : malthouseref11_reckons.f (rd_T67 l (i : Int)).f0 = some (reck (rd_T67 l (i : Int)).f0) := by
        have c : ∀ op : Int, malthouseref11_reckons.f op = some (reck op) := fun op => by
          unfold malthouseref11_reckons.f reck
          by_cases h0 : op = 0
          · rw [if_pos h0, decide_eq_true (by omega)]
          by_cases h1 : op = 1
          · rw [if_neg h0, if_pos h1, decide_eq_true (by omega)]
          by_cases h2 : op = 2
          · rw [if_neg h0, if_neg h1, if_pos h2, decide_eq_true (by omega)]
          by_cases h3 : op = 3
          · rw [if_neg h0, if_neg h1, if_neg h2, if_pos h3, decide_eq_true (by omega)]
          by_cases h4 : op = 4
          · rw [if_neg h0, if_neg h1, if_neg h2, if_neg h3, if_pos h4, decide_eq_true (by omega)]
          by_cases h5 : op = 5
          · rw [if_neg h0, if_neg h1, if_neg h2, if_neg h3, if_neg h4, decide_eq_true (by omega)]; simp [h5]
          · rw [if_neg h0, if_neg h1, if_neg h2, if_neg h3, if_neg h4, decide_eq_false (by omega)]; simp [h5]
        exact c _
      refine Tot.bind (docForm _) ?_
      unfold stepE
      by_cases cf : formP (rd_T67 l (i : Int)) = true
      rotate_left
      · simp only [if_neg cf, if_neg (show ¬ (1 : Int) = 0 by decide)]; exact Tot.const _
      simp only [if_pos cf]
      refine Tot.bind (docNamed outs ves _ _ ho hv s2 s3) ?_
      by_cases cn : namP outs ves (rd_T67 l (i : Int)) l.length = 0
      rotate_left
      · simp only [if_neg cn]; exact Tot.const _
      simp only [if_pos cn, RK, Option.bind_some]
      refine Tot.bind (may_both s1).2.1 ?_
      have J1t : ∀ b : Bool, Tot (fun k => malthouseref11_Check.j1 k l outs ves cells (i : Int) b true) 1 := fun b => Tot.succ (by simp only [malthouseref11_Check.j1, if_true]; exact Tot.const _)
      unfold expP
      by_cases cr : reck (rd_T67 l (i : Int)).f0 = true
      · simp only [if_pos cr]
        by_cases cm : mayP (rd_T67 l (i : Int)).f3 = true
        · simp only [cm, cr, if_true, Bool.not_true]
          refine Tot.succ ?_
          simp only [malthouseref11_Check.j1, ff, if_pos (show 0 ≤ (i : Int) by omega), if_pos (show (i : Int) < (l.length : Int) by omega)]
          refine Tot.bind hnm ?_
          by_cases ck : knownP cells (rd_T67 l (i : Int)).f3 = true
          · rw [if_pos ck] at NT
            simp only [if_pos ck, if_true]; exact NT
          · rw [if_neg ck] at NT
            simp only [if_neg ck, if_neg (show ¬ (4 : Int) = 0 by decide)]; exact NT
        · simp only [if_neg cm, show mayP (rd_T67 l (i : Int)).f3 = false by simpa using cm, Bool.not_false, if_neg (show ¬ (1 : Int) = 0 by decide)]
          exact J1t _
      · have cr' : reck (rd_T67 l (i : Int)).f0 = false := by simpa using cr
        simp only [cr', ff, if_true]
        refine Tot.succ ?_
        simp only [malthouseref11_Check.j1, ff, if_pos (show 0 ≤ (i : Int) by omega), if_pos (show (i : Int) < (l.length : Int) by omega)]
        exact Tot.bind hnm NF
  exact L l.length 0 (by omega)
theorem ends_both (l : List S67) (hl : l.length < 9223372036854775807) : ∃ b, Tot (fun k => prog_Ends.f k l) b ∧ Tot (fun k => malthouseref11_Ends.f k l) b := by
  have L : ∀ (n i : Nat), i + n = l.length → ∃ b, Tot (fun k => prog_Ends.l0 k l (l.length : Int) (i : Int)) b ∧ Tot (fun k => malthouseref11_Ends.l0 k l (i : Int)) b := by
    intro n
    induction n with
    | zero =>
      intro i e
      exact ⟨true, Tot.succ (by simp only [prog_Ends.l0, if_neg (show ¬ (i : Int) < (l.length : Int) by omega)]; exact Tot.const _), Tot.succ (by simp only [malthouseref11_Ends.l0, if_neg (show ¬ (i : Int) < (l.length : Int) by omega)]; exact Tot.const _)⟩
    | succ n ih =>
      intro i e
      obtain ⟨b, b1, b2⟩ := ih (i + 1) (by omega)
      have w := w1 (show 0 ≤ (i : Int) by omega) (show (i : Int) < 9223372036854775807 by omega)
      by_cases h6 : (rd_T67 l (i : Int)).f0 = 6
      · by_cases h4 : (rd_T67 l (i : Int)).f4 ≤ (i : Int)
        · exact ⟨false, Tot.succ (by simp only [prog_Ends.l0, if_pos (show (i : Int) < (l.length : Int) by omega), if_pos (show 0 ≤ (i : Int) by omega), if_pos h6, if_pos h4]; exact Tot.const _), Tot.succ (by simp only [malthouseref11_Ends.l0, if_pos (show (i : Int) < (l.length : Int) by omega), if_pos (show 0 ≤ (i : Int) by omega), if_pos h6, if_pos h4]; exact Tot.const _)⟩
        · exact ⟨b, Tot.succ (by simp only [prog_Ends.l0, if_pos (show (i : Int) < (l.length : Int) by omega), if_pos (show 0 ≤ (i : Int) by omega), if_pos h6, if_neg h4, w]; exact b1), Tot.succ (by simp only [malthouseref11_Ends.l0, if_pos (show (i : Int) < (l.length : Int) by omega), if_pos (show 0 ≤ (i : Int) by omega), if_pos h6, if_neg h4, w]; exact b2)⟩
      · exact ⟨b, Tot.succ (by simp only [prog_Ends.l0, if_pos (show (i : Int) < (l.length : Int) by omega), if_pos (show 0 ≤ (i : Int) by omega), if_neg h6, w]; exact b1), Tot.succ (by simp only [malthouseref11_Ends.l0, if_pos (show (i : Int) < (l.length : Int) by omega), if_pos (show 0 ≤ (i : Int) by omega), if_neg h6, w]; exact b2)⟩
  exact L l.length 0 (by omega)
end Go.Proofs.YtiaccdaeomaogaaDoor.F
