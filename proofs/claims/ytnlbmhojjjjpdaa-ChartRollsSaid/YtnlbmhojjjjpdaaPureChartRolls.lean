/- Any states together are what the document says; for every input. -/
import Derived.Test.YtnlbmhojjjjpdaaFmalthouselaw10ChartRolls
import Derived.Test.YtnlbmhojjjjpdaaFmalthouselaw10awake
namespace Go.Proofs.Ytnlbmhojjjjpdaa.Pure
open Go.RowKit Go.Proofs.Ytnlbmhojjjjpdaa.F Go.Proofs.YtnlbmhojjjjpdaaW.PrintWords Go.Proofs.YtnlbmhojjjjpdaaW.PrintLast
set_option linter.unusedVariables false
set_option linter.unusedSimpArgs false

theorem hasB_cnt (l : List Int) (x : Int) (h0 : 1 ≤ x) (h1 : x < 12) : hasB l x = decide (0 < cntS l x) := by
  have hi : ∀ y : Int, inS y = x ↔ x = y := by intro y; unfold inS; split <;> (try split) <;> omega
  rw [Bool.eq_iff_iff, decide_eq_true_iff]
  unfold hasB cntS
  rw [List.any_eq_true]
  constructor
  · rintro ⟨y, hy, h⟩
    have : 0 < l.countP (fun z => decide (inS z = x)) := List.countP_pos_iff.mpr ⟨y, hy, by simpa [hi] using h⟩
    omega
  · intro h
    obtain ⟨y, hy, h⟩ := List.countP_pos_iff.mp (show 0 < l.countP (fun z => decide (inS z = x)) by omega)
    exact ⟨y, hy, by simpa [hi] using h⟩
theorem acts_cnt (l : List Int) : l.any actB = decide (0 < actS l) := by
  have hi : ∀ y : Int, actB (inS y) = actB y := by
    intro y; unfold inS actB; split <;> (try split)
    · rw [decide_eq_false (by decide), decide_eq_false (by omega)]
    · rw [decide_eq_false (by decide), decide_eq_false (by omega)]
    · rfl
  rw [Bool.eq_iff_iff, decide_eq_true_iff]
  unfold actS
  rw [List.any_eq_true]
  constructor
  · rintro ⟨y, hy, h⟩
    have : 0 < l.countP (fun z => actB (inS z)) := List.countP_pos_iff.mpr ⟨y, hy, by rw [hi]; exact h⟩
    omega
  · intro h
    obtain ⟨y, hy, h⟩ := List.countP_pos_iff.mp (show 0 < l.countP (fun z => actB (inS z)) by omega)
    exact ⟨y, hy, by rw [hi] at h; exact h⟩
theorem cntD_cnt (l : List Int) : cntD l = cntS l 11 := by
  have hi : ∀ y : Int, inS y = 11 ↔ y = 11 := by intro y; unfold inS; split <;> (try split) <;> omega
  unfold cntD cntS
  congr 2
  funext y
  simp [hi]
theorem cnt_sum (l : List Int) : cntS l 0 + cntS l 1 + cntS l 2 + cntS l 3 + cntS l 4 + cntS l 5 + cntS l 6 + cntS l 7 + cntS l 8 + cntS l 9 + cntS l 10 + cntS l 11 = l.length := by
  induction l with
  | nil => rfl
  | cons a l ih =>
    have h : ∀ j, cntS (a :: l) j = cntS l j + (if inS a = j then 1 else 0) := fun j => by
      unfold cntS; rw [List.countP_cons]; by_cases h : inS a = j <;> simp [h]
    have hr := inS_range a
    have hc : inS a = 0 ∨ inS a = 1 ∨ inS a = 2 ∨ inS a = 3 ∨ inS a = 4 ∨ inS a = 5 ∨ inS a = 6 ∨ inS a = 7 ∨ inS a = 8 ∨ inS a = 9 ∨ inS a = 10 ∨ inS a = 11 := by omega
    simp only [h, List.length_cons]
    rcases hc with e | e | e | e | e | e | e | e | e | e | e | e <;> rw [e] <;> simp <;> omega
theorem roll_same (l : List Int) : rollP l = refRollP l := by
  have hs := cnt_sum l
  have hn : ∀ j, 0 ≤ cntS l j := fun j => (cntS_le l j).1
  have n0 := hn 0
  have n1 := hn 1
  have n2 := hn 2
  have n3 := hn 3
  have n4 := hn 4
  have n5 := hn 5
  have n6 := hn 6
  have n7 := hn 7
  have n8 := hn 8
  have n9 := hn 9
  have n10 := hn 10
  have n11 := hn 11
  unfold rollP rollAt restP refRollP
  rw [hasB_cnt l 9 (by omega) (by omega), hasB_cnt l (9 + 1) (by omega) (by omega), hasB_cnt l 7 (by omega) (by omega), hasB_cnt l (7 + 1) (by omega) (by omega), hasB_cnt l 4 (by omega) (by omega), hasB_cnt l (4 + 1) (by omega) (by omega), hasB_cnt l 6 (by omega) (by omega), hasB_cnt l 2 (by omega) (by omega), hasB_cnt l 3 (by omega) (by omega), hasB_cnt l 1 (by omega) (by omega), acts_cnt, cntD_cnt]
  simp only [decide_eq_true_eq, gt_iff_lt, show (9 + 1 : Int) = 10 from rfl, show (7 + 1 : Int) = 8 from rfl, show (4 + 1 : Int) = 5 from rfl]
  generalize cntS l 0 = c0 at *
  generalize cntS l 1 = c1 at *
  generalize cntS l 2 = c2 at *
  generalize cntS l 3 = c3 at *
  generalize cntS l 4 = c4 at *
  generalize cntS l 5 = c5 at *
  generalize cntS l 6 = c6 at *
  generalize cntS l 7 = c7 at *
  generalize cntS l 8 = c8 at *
  generalize cntS l 9 = c9 at *
  generalize cntS l 10 = c10 at *
  generalize cntS l 11 = c11 at *
  by_cases h : (l.length : Int) = 0
  · rw [if_pos h]
    repeat (rw [if_neg (by omega)])
    rw [if_pos (by omega)]
  · rw [if_neg h]
    by_cases h9 : 0 < c9
    · rw [if_pos h9, if_pos h9]
    rw [if_neg h9, if_neg h9]
    by_cases h10 : 0 < c10
    · rw [if_pos h10, if_pos h10]; try rfl
    rw [if_neg h10, if_neg h10]
    by_cases h7 : 0 < c7
    · rw [if_pos h7, if_pos h7]
    rw [if_neg h7, if_neg h7]
    by_cases h8 : 0 < c8
    · rw [if_pos h8, if_pos h8]; try rfl
    rw [if_neg h8, if_neg h8]
    by_cases h4 : 0 < c4
    · rw [if_pos h4, if_pos h4]
    rw [if_neg h4, if_neg h4]
    by_cases h5 : 0 < c5
    · rw [if_pos h5, if_pos h5]; try rfl
    rw [if_neg h5, if_neg h5]
    by_cases h6 : 0 < c6
    · rw [if_pos h6, if_pos h6]
    rw [if_neg h6, if_neg h6]
    by_cases h2 : 0 < c2
    · rw [if_pos h2, if_pos h2]
    rw [if_neg h2, if_neg h2]
    by_cases h3 : 0 < c3
    · rw [if_pos h3, if_pos h3]
    rw [if_neg h3, if_neg h3]
    by_cases h1 : 0 < c1
    · rw [if_pos h1, if_pos h1]
    rw [if_neg h1, if_neg h1]
    by_cases h11 : c11 = 0
    · rw [if_pos h11, if_neg (by omega), if_pos (by omega)]
    rw [if_neg h11]
    by_cases hl : c11 = l.length
    · rw [if_pos hl, if_pos hl]
    rw [if_neg hl, if_neg hl, if_neg (by omega)]

theorem ChartRolls : malthouselaw10_ChartRolls.Pure := by
  intro l hl _ _
  refine ⟨20, ?_⟩
  unfold malthouselaw10_ChartRolls.f
  rw [show malthouselaw10_awake.f 20 = some true from by decide +kernel]
  simp only [Option.bind_some]
  by_cases h : (l.length : Int) > 1000
  · rw [if_pos h]
  · rw [if_neg h, if_pos trivial]
    unfold chart_Roll.f malthouseref10_Roll.f
    rw [if_pos (by omega), if_pos (by omega)]
    simp only [Option.bind_some, roll_same]
    simp
end Go.Proofs.Ytnlbmhojjjjpdaa.Pure
