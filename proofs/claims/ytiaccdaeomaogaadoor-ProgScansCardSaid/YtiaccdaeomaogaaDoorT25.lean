/- Texts of one claim, slimmed and merged by slim.py. -/
import Derived.Lib.ValidLaws
import Derived.Lib.TrimUEq
import Derived.Test.YtiaccdaeomaogaaDoorT4
import Derived.Test.YtiaccdaeomaogaaDoorT13
import Derived.Test.YtiaccdaeomaogaaDoorT23
import Derived.Test.YtiaccdaeomaogaaDoorT24
namespace Go.Proofs.YtiaccdaeomaogaaDoor.F
open Go.RowKit Go.Proofs.YtiaccdaeomaogaaDoorW.PrintWords Go.Proofs.YtiaccdaeomaogaaDoorW.PrintLast Go.Proofs.YtiaccdaeomaogaaDoorW.PrintMore
set_option linter.unusedVariables false
set_option linter.unusedSimpArgs false
def signsS : ByteArray := (⟨#[40, 41, 123, 125, 44, 59, 58, 61, 43, 45, 42, 47, 37, 60, 62, 33, 38, 124]⟩ : ByteArray)
def signsL : List Int := [40, 41, 123, 125, 44, 59, 58, 61, 43, 45, 42, 47, 37, 60, 62, 33, 38, 124]
def classP (r : Int) : Int :=
  if r = 32 ∨ r = 9 ∨ r = 13 ∨ r = 10 then 1
  else if (r ≥ 97 ∧ r ≤ 122) ∨ (r ≥ 65 ∧ r ≤ 90) ∨ r = 95 then 2
  else if r ≥ 192 ∧ r ≤ 591 ∧ r ≠ 215 ∧ r ≠ 247 then 2
  else if r ≥ 48 ∧ r ≤ 57 then 3
  else if r = 34 then 5
  else if r = 35 then 6
  else if r ∈ signsL then 4 else 0
theorem signs_fin : ∀ n : Fin 127, 32 < n.val → ((strings_IndexByte.f signsS ((n.val : Int) % 256)).bind fun t101 => (if t101 ≥ 0 then (some (4 : Int)) else (some 0))) = some (if (n.val : Int) ∈ signsL then 4 else 0) := by decide +kernel
theorem signs_in (r : Int) (h : r ∈ signsL) : 32 < r ∧ r < 127 := by
  have : ∀ x ∈ signsL, 32 < x ∧ x < 127 := by decide
  exact this r h
theorem signs_tail (r : Int) : (if r > 32 then (if r < 127 then ((strings_IndexByte.f signsS (r % 256)).bind fun t101 => (if t101 ≥ 0 then (some (4 : Int)) else (some 0))) else (some 0)) else (some 0)) = some (if r ∈ signsL then 4 else 0) := by
  by_cases h : r ∈ signsL
  · obtain ⟨h1, h2⟩ := signs_in r h
    rw [if_pos h1, if_pos h2]
    have := signs_fin ⟨r.toNat, by omega⟩ (by show 32 < r.toNat; omega)
    rw [show (((⟨r.toNat, by omega⟩ : Fin 127).val : Nat) : Int) = r by show ((r.toNat : Nat) : Int) = r; omega] at this
    exact this
  · by_cases h1 : r > 32
    · by_cases h2 : r < 127
      · rw [if_pos h1, if_pos h2]
        have := signs_fin ⟨r.toNat, by omega⟩ (by show 32 < r.toNat; omega)
        rw [show (((⟨r.toNat, by omega⟩ : Fin 127).val : Nat) : Int) = r by show ((r.toNat : Nat) : Int) = r; omega] at this
        exact this
      · rw [if_pos h1, if_neg h2, if_neg h]
    · rw [if_neg h1, if_neg h]
set_option maxHeartbeats 4000000 in
theorem lexClass_eq (r : Int) : lex_Class.f 5 r = some (classP r) := by
  have T := signs_tail r
  unfold signsS at T
  have J4 : ∀ b : Bool, lex_Class.j4 1 r b = if b = true then some 3 else if r = 34 then some 5 else if r = 35 then some 6 else some (if r ∈ signsL then 4 else 0) := fun b => by
    simp only [lex_Class.j4]; rw [T]
  have J3 : ∀ b : Bool, lex_Class.j3 2 r b = if b = true then some 2 else if r ≥ 48 ∧ r ≤ 57 then some 3 else if r = 34 then some 5 else if r = 35 then some 6 else some (if r ∈ signsL then 4 else 0) := fun b => by
    simp only [lex_Class.j3]; rw [J4, J4]
    cases b
    · simp only [if_neg (show ¬ (false = true) by decide)]
      by_cases h1 : r ≥ 48
      · by_cases h2 : r ≤ 57
        · rw [if_pos h1, if_pos (decide_eq_true h2), if_pos ⟨h1, h2⟩]
        · rw [if_pos h1, if_neg (show ¬ (decide (r ≤ 57) = true) by simp; omega), if_neg (show ¬ (r ≥ 48 ∧ r ≤ 57) by omega)]
      · rw [if_neg h1, if_neg (show ¬ (r ≥ 48 ∧ r ≤ 57) by omega)]
    · rfl
  have J2 : ∀ b : Bool, lex_Class.j2 3 r b = if b = true then some 2 else if r ≥ 192 ∧ r ≤ 591 ∧ r ≠ 215 ∧ r ≠ 247 then some 2 else if r ≥ 48 ∧ r ≤ 57 then some 3 else if r = 34 then some 5 else if r = 35 then some 6 else some (if r ∈ signsL then 4 else 0) := fun b => by
    simp only [lex_Class.j2]; rw [J3, J3]
    cases b
    · simp only [if_neg (show ¬ (false = true) by decide)]
      by_cases h1 : r ≥ 192
      · by_cases h2 : r ≤ 591
        · by_cases h3 : r = 215
          · rw [if_pos h1, if_pos h2, if_pos h3, if_neg (show ¬ (r ≥ 192 ∧ r ≤ 591 ∧ r ≠ 215 ∧ r ≠ 247) by omega)]
          · by_cases h4 : r = 247
            · rw [if_pos h1, if_pos h2, if_neg h3, if_neg (show ¬ ((r != 247) = true) by simp [h4]), if_neg (show ¬ (r ≥ 192 ∧ r ≤ 591 ∧ r ≠ 215 ∧ r ≠ 247) by omega)]
            · rw [if_pos h1, if_pos h2, if_neg h3, if_pos (show ((r != 247) = true) by simp [h4]), if_pos (show (r ≥ 192 ∧ r ≤ 591 ∧ r ≠ 215 ∧ r ≠ 247) by omega)]
        · rw [if_pos h1, if_neg h2, if_neg (show ¬ (r ≥ 192 ∧ r ≤ 591 ∧ r ≠ 215 ∧ r ≠ 247) by omega)]
      · rw [if_neg h1, if_neg (show ¬ (r ≥ 192 ∧ r ≤ 591 ∧ r ≠ 215 ∧ r ≠ 247) by omega)]
    · rfl
  have J1 : ∀ b : Bool, lex_Class.j1 4 r b = if b = true ∨ (r ≥ 65 ∧ r ≤ 90) ∨ r = 95 then some 2 else if r ≥ 192 ∧ r ≤ 591 ∧ r ≠ 215 ∧ r ≠ 247 then some 2 else if r ≥ 48 ∧ r ≤ 57 then some 3 else if r = 34 then some 5 else if r = 35 then some 6 else some (if r ∈ signsL then 4 else 0) := fun b => by
    simp only [lex_Class.j1]; simp only [J2]
    cases b
    · simp only [if_neg (show ¬ (false = true) by decide)]
      by_cases h1 : r ≥ 65
      · by_cases h2 : r ≤ 90
        · rw [if_pos h1, if_pos h2, if_pos (decide_eq_true h2), if_pos (.inr (.inl ⟨h1, h2⟩))]
        · by_cases h3 : r = 95
          · rw [if_pos h1, if_neg h2, if_pos (beq_iff_eq.mpr h3), if_pos (.inr (.inr h3))]
          · rw [if_pos h1, if_neg h2, if_neg (show ¬ ((r == 95) = true) by simp [h3]), if_neg (show ¬ (false = true ∨ (r ≥ 65 ∧ r ≤ 90) ∨ r = 95) by simp; omega)]
      · rw [if_neg h1, if_neg (show ¬ ((r == 95) = true) by simp; omega), if_neg (show ¬ (false = true ∨ (r ≥ 65 ∧ r ≤ 90) ∨ r = 95) by simp; omega)]
    · simp
  have J0 : ∀ b : Bool, lex_Class.j0 5 r b = if b = true then some 1 else if (r ≥ 97 ∧ r ≤ 122) ∨ (r ≥ 65 ∧ r ≤ 90) ∨ r = 95 then some 2 else if r ≥ 192 ∧ r ≤ 591 ∧ r ≠ 215 ∧ r ≠ 247 then some 2 else if r ≥ 48 ∧ r ≤ 57 then some 3 else if r = 34 then some 5 else if r = 35 then some 6 else some (if r ∈ signsL then 4 else 0) := fun b => by
    simp only [lex_Class.j0]; rw [J1, J1]
    cases b
    · simp only [if_neg (show ¬ (false = true) by decide)]
      by_cases h1 : r ≥ 97
      · rw [if_pos h1]
        simp only [decide_eq_true_eq, h1, true_and]
      · rw [if_neg h1]
        simp [h1]
    · rfl
  unfold classP
  simp only [lex_Class.f]; simp only [J0, beq_iff_eq]
  by_cases h : r = 32 ∨ r = 9 ∨ r = 13 ∨ r = 10
  · rw [if_pos h]
    rcases h with rfl | rfl | rfl | rfl <;> rfl
  · rw [if_neg h]
    rw [if_neg (by omega), if_neg (by omega), if_neg (by omega), if_neg (by omega)]
    (repeat' split) <;> rfl
theorem classN_P (r : Int) : classN r = classP r := by
  have := class_some r
  rw [lexClass_eq] at this
  exact (Option.some.inj this).symm
theorem signs_mem (r : Int) : (∃ j : Nat, j < 18 ∧ bt signsS (j : Int) = r) ↔ r ∈ signsL := by
  constructor
  · rintro ⟨j, hj, rfl⟩
    have : ∀ j : Fin 18, bt signsS ((j.val : Nat) : Int) ∈ signsL := by decide +kernel
    exact this ⟨j, hj⟩
  · intro h
    have : ∀ x ∈ signsL, ∃ j : Fin 18, bt signsS ((j.val : Nat) : Int) = x := by decide +kernel
    obtain ⟨j, hj⟩ := this r h
    exact ⟨j.val, j.isLt, hj⟩
theorem signs_loop (r : Int) : ∀ (n i : Nat), i + n = 18 → ∃ v, Tot (fun k => malthouseref01_Class.l0 k r signsS (i : Int)) v ∧ ((v = 4 ∧ ∃ j : Nat, i ≤ j ∧ j < 18 ∧ bt signsS (j : Int) = r) ∨ (v = 0 ∧ ∀ j : Nat, i ≤ j → j < 18 → bt signsS (j : Int) ≠ r))
  | 0, i, e => ⟨0, Tot.succ (by simp only [malthouseref01_Class.l0, if_neg (show ¬ (i : Int) < (signsS.size : Int) from fun h => by have : signsS.size = 18 := rfl; omega)]; exact Tot.const _), .inr ⟨rfl, fun j h1 h2 => by omega⟩⟩
  | n + 1, i, e => by
    have hz : (i : Int) < (signsS.size : Int) := by have : signsS.size = 18 := rfl; omega
    have hw : wrap64 (bt signsS (i : Int)) = bt signsS (i : Int) := wr (by have := bt_range signsS (i : Int); omega)
    obtain ⟨b, hb⟩ : ∃ b, bt signsS (i : Int) = b := ⟨_, rfl⟩
    rw [hb] at hw
    by_cases h : b = r
    · exact ⟨4, Tot.succ (by simp only [malthouseref01_Class.l0, if_pos hz, if_pos (show 0 ≤ (i : Int) by omega), hw, hb, if_pos h]; exact Tot.const _), .inl ⟨rfl, i, by omega, by omega, hb.trans h⟩⟩
    · obtain ⟨v, hv, hc⟩ := signs_loop r n (i + 1) (by omega)
      refine ⟨v, Tot.succ (by simp only [malthouseref01_Class.l0, if_pos hz, if_pos (show 0 ≤ (i : Int) by omega), hw, hb, if_neg h, w1 (show 0 ≤ (i : Int) by omega) (show (i : Int) < 9223372036854775807 by omega)]; exact hv), ?_⟩
      rcases hc with ⟨h1, j, h2, h3, h4⟩ | ⟨h1, h2⟩
      · exact .inl ⟨h1, j, by omega, h3, h4⟩
      · refine .inr ⟨h1, fun j h3 h4 => ?_⟩
        by_cases hj : j = i
        · subst hj; rw [hb]; exact h
        · exact h2 j (by omega) h4
theorem Class_tot (r : Int) : Tot (fun k => malthouseref01_Class.f k r) (classP r) := by
  obtain ⟨v, hv, hc⟩ := signs_loop r 18 0 (by omega)
  have ev : v = if r ∈ signsL then 4 else 0 := by
    rcases hc with ⟨h1, j, h2, h3, h4⟩ | ⟨h1, h2⟩
    · rw [if_pos ((signs_mem r).mp ⟨j, h3, h4⟩)]; exact h1
    · rw [if_neg (fun h => by obtain ⟨j, h3, h4⟩ := (signs_mem r).mpr h; exact h2 j (by omega) h3 h4)]; exact h1
  rw [ev] at hv
  unfold signsS at hv
  have J3 : ∀ b : Bool, Tot (fun k => malthouseref01_Class.j3 k r b) (if b = true then 3 else if r = 34 then 5 else if r = 35 then 6 else if r ∈ signsL then 4 else 0) := fun b => by
    refine Tot.succ ?_
    simp only [malthouseref01_Class.j3]
    cases b
    · simp only [if_neg (show ¬ (false = true) by decide)]
      by_cases h1 : r = 34
      · simp only [if_pos h1]; exact Tot.const _
      by_cases h2 : r = 35
      · simp only [if_neg h1, if_pos h2]; exact Tot.const _
      · simp only [if_neg h1, if_neg h2]; exact hv
    · simp only [if_true]; exact Tot.const _
  have J2 : ∀ b : Bool, Tot (fun k => malthouseref01_Class.j2 k r b) (if b = true then 2 else if r ≥ 48 ∧ r ≤ 57 then 3 else if r = 34 then 5 else if r = 35 then 6 else if r ∈ signsL then 4 else 0) := fun b => by
    refine Tot.succ ?_
    simp only [malthouseref01_Class.j2]
    cases b
    · simp only [if_neg (show ¬ (false = true) by decide)]
      by_cases h1 : r ≥ 48
      · have := J3 (decide (r ≤ 57))
        simp only [decide_eq_true_eq] at this
        simp only [if_pos h1, h1, true_and]; exact this
      · have := J3 false
        simp only [if_neg h1, if_neg (show ¬ (r ≥ 48 ∧ r ≤ 57) from fun h => h1 h.1)]
        simpa using this
    · simp only [if_true]; exact Tot.const _
  have J1 : ∀ b : Bool, Tot (fun k => malthouseref01_Class.j1 k r b) (if b = true then 2 else if r ≥ 192 ∧ r ≤ 591 ∧ r ≠ 215 ∧ r ≠ 247 then 2 else if r ≥ 48 ∧ r ≤ 57 then 3 else if r = 34 then 5 else if r = 35 then 6 else if r ∈ signsL then 4 else 0) := fun b => by
    refine Tot.succ ?_
    simp only [malthouseref01_Class.j1]
    have F := J2 false
    simp only [if_neg (show ¬ (false = true) by decide)] at F
    cases b
    · simp only [if_neg (show ¬ (false = true) by decide)]
      by_cases h1 : r ≥ 192
      · by_cases h2 : r ≤ 591
        · by_cases h3 : r = 215
          · simp only [if_pos h1, if_pos h2, if_pos h3, if_neg (show ¬ (r ≥ 192 ∧ r ≤ 591 ∧ r ≠ 215 ∧ r ≠ 247) by omega)]; exact F
          · by_cases h4 : r = 247
            · simp only [if_pos h1, if_pos h2, if_neg h3, show (r != 247) = false by simp [h4], if_neg (show ¬ (r ≥ 192 ∧ r ≤ 591 ∧ r ≠ 215 ∧ r ≠ 247) by omega)]; exact F
            · simp only [if_pos h1, if_pos h2, if_neg h3, show (r != 247) = true by simp [h4], if_pos (show (r ≥ 192 ∧ r ≤ 591 ∧ r ≠ 215 ∧ r ≠ 247) by omega)]
              have := J2 true
              simpa using this
        · simp only [if_pos h1, if_neg h2, if_neg (show ¬ (r ≥ 192 ∧ r ≤ 591 ∧ r ≠ 215 ∧ r ≠ 247) by omega)]; exact F
      · simp only [if_neg h1, if_neg (show ¬ (r ≥ 192 ∧ r ≤ 591 ∧ r ≠ 215 ∧ r ≠ 247) by omega)]; exact F
    · simp only [if_true]; exact Tot.const _
  have J0 : ∀ b : Bool, Tot (fun k => malthouseref01_Class.j0 k r b) (if b = true then 1 else if (r ≥ 97 ∧ r ≤ 122) ∨ (r ≥ 65 ∧ r ≤ 90) ∨ r = 95 then 2 else if r ≥ 192 ∧ r ≤ 591 ∧ r ≠ 215 ∧ r ≠ 247 then 2 else if r ≥ 48 ∧ r ≤ 57 then 3 else if r = 34 then 5 else if r = 35 then 6 else if r ∈ signsL then 4 else 0) := fun b => by
    refine Tot.succ ?_
    simp only [malthouseref01_Class.j0]
    have F := J1 false
    simp only [if_neg (show ¬ (false = true) by decide)] at F
    have T := J1 true
    simp only [if_true] at T
    cases b
    · simp only [if_neg (show ¬ (false = true) by decide)]
      have U : Tot (fun k => malthouseref01_Class.j1 k r (r == 95)) (if r = 95 then 2 else if r ≥ 192 ∧ r ≤ 591 ∧ r ≠ 215 ∧ r ≠ 247 then 2 else if r ≥ 48 ∧ r ≤ 57 then 3 else if r = 34 then 5 else if r = 35 then 6 else if r ∈ signsL then 4 else 0) := by
        have := J1 (r == 95)
        simp only [beq_iff_eq] at this; exact this
      by_cases h1 : r ≥ 97
      · by_cases h2 : r ≤ 122
        · simp only [if_pos h1, if_pos h2, if_pos (show (r ≥ 97 ∧ r ≤ 122) ∨ (r ≥ 65 ∧ r ≤ 90) ∨ r = 95 by omega)]; exact T
        · rw [if_neg (show ¬ r = 95 by omega)] at U
          simp only [if_pos h1, if_neg h2, if_pos (show r ≥ 65 by omega), if_neg (show ¬ r ≤ 90 by omega), if_neg (show ¬ ((r ≥ 97 ∧ r ≤ 122) ∨ (r ≥ 65 ∧ r ≤ 90) ∨ r = 95) by omega)]; exact U
      · by_cases h3 : r ≥ 65
        · by_cases h4 : r ≤ 90
          · simp only [if_neg h1, if_pos h3, if_pos h4, if_pos (show (r ≥ 97 ∧ r ≤ 122) ∨ (r ≥ 65 ∧ r ≤ 90) ∨ r = 95 by omega)]; exact T
          · simp only [if_neg h1, if_pos h3, if_neg h4]
            by_cases h5 : r = 95
            · rw [if_pos h5] at U
              simp only [if_pos (show (r ≥ 97 ∧ r ≤ 122) ∨ (r ≥ 65 ∧ r ≤ 90) ∨ r = 95 by omega)]; exact U
            · rw [if_neg h5] at U
              simp only [if_neg (show ¬ ((r ≥ 97 ∧ r ≤ 122) ∨ (r ≥ 65 ∧ r ≤ 90) ∨ r = 95) by omega)]; exact U
        · rw [if_neg (show ¬ r = 95 by omega)] at U
          simp only [if_neg h1, if_neg h3, if_neg (show ¬ ((r ≥ 97 ∧ r ≤ 122) ∨ (r ≥ 65 ∧ r ≤ 90) ∨ r = 95) by omega)]; exact U
    · simp only [if_true]; exact Tot.const _
  have F := J0 false
  simp only [if_neg (show ¬ (false = true) by decide)] at F
  have T := J0 true
  simp only [if_true] at T
  unfold classP malthouseref01_Class.f
  by_cases h1 : r = 32
  · simp only [if_pos h1, if_pos (show r = 32 ∨ r = 9 ∨ r = 13 ∨ r = 10 by omega)]; exact T
  by_cases h2 : r = 9
  · simp only [if_neg h1, if_pos h2, if_pos (show r = 32 ∨ r = 9 ∨ r = 13 ∨ r = 10 by omega)]; exact T
  by_cases h3 : r = 13
  · simp only [if_neg h1, if_neg h2, if_pos h3, if_pos (show r = 32 ∨ r = 9 ∨ r = 13 ∨ r = 10 by omega)]; exact T
  by_cases h4 : r = 10
  · simp only [if_neg h1, if_neg h2, if_neg h3, show (r == 10) = true from beq_iff_eq.mpr h4, if_pos (show r = 32 ∨ r = 9 ∨ r = 13 ∨ r = 10 by omega)]; exact T
  · simp only [if_neg h1, if_neg h2, if_neg h3, show (r == 10) = false from beq_eq_false_iff_ne.mpr h4, if_neg (show ¬ (r = 32 ∨ r = 9 ∨ r = 13 ∨ r = 10) by omega)]; exact F
def runesL (s : ByteArray) : Nat → Nat → List Int
  | 0, _ => []
  | g + 1, pos => if pos < s.size then (if Utf8.decode s pos = (65533, 1) then [] else ((Utf8.decode s pos).1 : Int) :: runesL s g (pos + (Utf8.decode s pos).2)) else []
def okL (s : ByteArray) : Nat → Nat → Bool
  | 0, _ => true
  | g + 1, pos => if pos < s.size then (if Utf8.decode s pos = (65533, 1) then false else okL s g (pos + (Utf8.decode s pos).2)) else true
theorem okL_end (s : ByteArray) (g pos : Nat) (h : ¬ pos < s.size) : okL s g pos = true := by cases g <;> simp [okL, h]
theorem dec_w (s : ByteArray) (i : Nat) : 1 ≤ (Utf8.decode s i).2 ∧ (Utf8.decode s i).2 ≤ 4 := by
  rw [Lib.decode_at]
  generalize s.size - i = n
  generalize (s.get! i).toNat = b0
  generalize (s.get! (i + 1)).toNat = b1
  generalize (s.get! (i + 2)).toNat = b2
  generalize (s.get! (i + 3)).toNat = b3
  unfold Lib.decodeN
  by_cases c0 : b0 < 128
  · rw [if_pos c0]; simp
  rw [if_neg c0]
  by_cases c1 : b0 / 32 = 6 ∧ 1 < n ∧ b1 / 64 = 2
  · rw [if_pos c1]; split <;> simp
  rw [if_neg c1]
  by_cases c2 : b0 / 16 = 14 ∧ (1 < n ∧ b1 / 64 = 2) ∧ 2 < n ∧ b2 / 64 = 2
  · rw [if_pos c2]; split <;> simp
  rw [if_neg c2]
  by_cases c3 : b0 / 8 = 30 ∧ (1 < n ∧ b1 / 64 = 2) ∧ (2 < n ∧ b2 / 64 = 2) ∧ 3 < n ∧ b3 / 64 = 2
  · rw [if_pos c3]; split <;> simp
  · rw [if_neg c3]; decide
theorem Runes_l0 (s : ByteArray) (hs : s.size < 17592186044416) : ∀ (g pos : Nat) (R At : List Int), s.size ≤ pos + g → R.length ≤ pos → At.length ≤ pos → R.length < 17592186044416 → At.length < 17592186044416 → ∃ at' : List Int, Tot (fun k => malthouseref01_Runes.l0 k s (pos : Int) s R At) (s, R ++ runesL s g pos, at', okL s g pos)
  | 0, pos, R, At, h, hr, ha, hR, hA => ⟨At ++ [(s.size : Int)], Tot.succ (by
      simp only [malthouseref01_Runes.l0, if_neg (show ¬ (pos : Int) < (s.size : Int) by omega), if_pos hA, runesL, okL, List.append_nil]; exact Tot.const _)⟩
  | g + 1, pos, R, At, h, hr, ha, hR, hA => by
    by_cases hp : pos < s.size
    · have ht := Rune_tot s pos hp (by omega)
      have hw := dec_w s pos
      obtain ⟨d, hd⟩ : ∃ d, Utf8.decode s pos = d := ⟨_, rfl⟩
      rw [hd] at ht hw
      by_cases hb : d = (65533, 1)
      · refine ⟨At, Tot.succ ?_⟩
        simp only [malthouseref01_Runes.l0, if_pos (show (pos : Int) < (s.size : Int) by omega), runesL, okL, if_pos hp, hd, if_pos hb, List.append_nil]
        refine Tot.bind ht ?_
        unfold libR
        simp only [if_pos hb, if_true]; exact Tot.const _
      · obtain ⟨at', hat⟩ := Runes_l0 s hs g (pos + d.2) (R ++ [(d.1 : Int)]) (At ++ [(pos : Int)]) (by omega) (by simp; omega) (by simp; omega) (by simp; omega) (by simp; omega)
        refine ⟨at', Tot.succ ?_⟩
        simp only [malthouseref01_Runes.l0, if_pos (show (pos : Int) < (s.size : Int) by omega), runesL, okL, if_pos hp, hd, if_neg hb]
        refine Tot.bind ht ?_
        unfold libR
        simp only [if_neg hb, if_neg (show ¬ ((d.2 : Nat) : Int) = 0 by omega), if_pos hR, if_pos hA, wr (show -9223372036854775808 ≤ (pos : Int) + (d.2 : Int) ∧ (pos : Int) + (d.2 : Int) ≤ 9223372036854775807 by omega)]
        rw [List.append_assoc] at hat
        exact hat
    · refine ⟨At ++ [(s.size : Int)], Tot.succ ?_⟩
      simp only [malthouseref01_Runes.l0, if_neg (show ¬ (pos : Int) < (s.size : Int) by omega), if_pos hA, runesL, okL, if_neg hp, List.append_nil]; exact Tot.const _
theorem Runes_tot (s : ByteArray) (hs : s.size < 17592186044416) : ∃ at' : List Int, Tot (fun k => malthouseref01_Runes.f k s) (s, runesL s s.size 0, at', okL s s.size 0) := Runes_l0 s hs s.size 0 [] [] (by omega) (by simp) (by simp) (by simp) (by simp)
theorem valid_ok (s : ByteArray) : ∀ (g pos : Nat), s.size ≤ pos + g → Lib.validD (s.data.toList.drop pos) = okL s g pos
  | g, pos, h => by
    by_cases hp : pos < s.size
    · have hne : s.data.toList.drop pos ≠ [] := fun e => by
        have := List.drop_eq_nil_iff.mp e
        have h2 : s.data.toList.length = s.size := (Lib.size_eq s).symm
        omega
      cases g with
      | zero => omega
      | succ g =>
      rw [Lib.validD_step _ hne, Lib.decodeL_drop, List.drop_drop]
      have hw := dec_w s pos
      simp only [okL, if_pos hp]
      by_cases hb : Utf8.decode s pos = (65533, 1)
      · rw [if_pos hb, if_pos (by rw [hb]; exact ⟨rfl, rfl⟩)]
      · rw [if_neg hb, if_neg (fun h => hb (Prod.ext h.1 h.2))]
        exact valid_ok s g _ (by omega)
    · have he : s.data.toList.drop pos = [] := List.drop_eq_nil_of_le (by have h2 : s.data.toList.length = s.size := (Lib.size_eq s).symm
                                                                          omega)
      rw [he, okL_end s g pos hp]; rfl
theorem count_len (s : ByteArray) : ∀ (g pos : Nat), okL s g pos = true → Lib.runeCountFrom s g pos = (runesL s g pos).length
  | 0, pos, h => rfl
  | g + 1, pos, h => by
    unfold Lib.runeCountFrom
    simp only [okL] at h
    simp only [runesL]
    by_cases hp : pos < s.size
    · rw [if_pos hp] at h
      rw [if_pos hp, if_pos hp]
      by_cases hb : Utf8.decode s pos = (65533, 1)
      · rw [if_pos hb] at h; cases h
      · rw [if_neg hb] at h
        rw [if_neg hb, count_len s g _ h, List.length_cons]; omega
    · rw [if_neg hp, if_neg hp]; rfl
theorem wordy_all (s : ByteArray) : ∀ (g pos : Nat), okL s g pos = true → wordyFrom s g pos = (runesL s g pos).all wordB
  | 0, pos, h => rfl
  | g + 1, pos, h => by
    unfold wordyFrom
    simp only [okL] at h
    simp only [runesL]
    by_cases hp : pos < s.size
    · rw [if_pos hp] at h
      rw [if_pos hp, if_pos hp]
      by_cases hb : Utf8.decode s pos = (65533, 1)
      · rw [if_pos hb] at h; cases h
      · rw [if_neg hb] at h
        rw [if_neg hb, List.all_cons, wordy_all s g _ h]
        cases wordB ((Utf8.decode s pos).1 : Int) <;> rfl
    · rw [if_neg hp, if_neg hp]; rfl
def nameP (a : ByteArray) : Bool := okL a a.size 0 && decide (runesL a a.size 0 ≠ []) && decide ((runesL a a.size 0).length ≤ 12) && decide (classP (rd (runesL a a.size 0) 0) = 2) && (runesL a a.size 0).all wordB
theorem wordB_P (r : Int) : wordB r = decide (classP r = 2 ∨ classP r = 3) := by
  unfold wordB; rw [classN_P]
  by_cases h2 : classP r = 2 <;> by_cases h3 : classP r = 3 <;> simp [h2, h3]
theorem class_digit (r : Int) : classP r = 3 ↔ 48 ≤ r ∧ r ≤ 57 := by
  unfold classP
  by_cases h1 : r = 32 ∨ r = 9 ∨ r = 13 ∨ r = 10
  · rw [if_pos h1]; constructor <;> intro h <;> omega
  rw [if_neg h1]
  by_cases h2 : (r ≥ 97 ∧ r ≤ 122) ∨ (r ≥ 65 ∧ r ≤ 90) ∨ r = 95
  · rw [if_pos h2]; constructor <;> intro h <;> omega
  rw [if_neg h2]
  by_cases h3 : r ≥ 192 ∧ r ≤ 591 ∧ r ≠ 215 ∧ r ≠ 247
  · rw [if_pos h3]; constructor <;> intro h <;> omega
  rw [if_neg h3]
  by_cases h4 : r ≥ 48 ∧ r ≤ 57
  · rw [if_pos h4]; exact ⟨fun _ => h4, fun _ => rfl⟩
  rw [if_neg h4]
  constructor
  · intro h
    by_cases h5 : r = 34
    · rw [if_pos h5] at h; omega
    rw [if_neg h5] at h
    by_cases h6 : r = 35
    · rw [if_pos h6] at h; omega
    rw [if_neg h6] at h
    split at h <;> omega
  · intro h; omega
theorem first_digit (s : ByteArray) (h : 0 < s.size) (hb : Utf8.decode s 0 ≠ (65533, 1)) : (48 ≤ bt s 0 ∧ bt s 0 ≤ 57) ↔ (48 ≤ ((Utf8.decode s 0).1 : Int) ∧ ((Utf8.decode s 0).1 : Int) ≤ 57) := by
  have e0 := bt_get s 0 h
  rw [show ((0 : Nat) : Int) = 0 from rfl] at e0
  rw [e0]
  clear e0
  rw [Lib.decode_at] at hb ⊢
  generalize s.size - 0 = n at *
  generalize (s.get! 0).toNat = b0 at *
  generalize (s.get! (0 + 1)).toNat = b1 at *
  generalize (s.get! (0 + 2)).toNat = b2 at *
  generalize (s.get! (0 + 3)).toNat = b3 at *
  unfold Lib.decodeN at *
  by_cases c0 : b0 < 128
  · rw [if_pos c0]
  rw [if_neg c0] at hb ⊢
  have big : ∀ v : Nat, v ≥ 128 → ∀ p : Nat × Nat, p.1 = v → ((48 ≤ ((b0 : Nat) : Int) ∧ (b0 : Int) ≤ 57) ↔ (48 ≤ ((p.1 : Nat) : Int) ∧ (p.1 : Int) ≤ 57)) := fun v hv p hp => by rw [hp]; constructor <;> intro h <;> omega
  by_cases c1 : b0 / 32 = 6 ∧ 1 < n ∧ b1 / 64 = 2
  · rw [if_pos c1] at hb ⊢
    by_cases d : b0 % 32 * 64 + b1 % 64 ≥ 128
    · rw [if_pos d]; exact big _ d _ rfl
    · rw [if_neg d] at hb; exact absurd rfl hb
  rw [if_neg c1] at hb ⊢
  by_cases c2 : b0 / 16 = 14 ∧ (1 < n ∧ b1 / 64 = 2) ∧ 2 < n ∧ b2 / 64 = 2
  · rw [if_pos c2] at hb ⊢
    by_cases d : b0 % 16 * 4096 + b1 % 64 * 64 + b2 % 64 ≥ 2048 ∧ (b0 % 16 * 4096 + b1 % 64 * 64 + b2 % 64 < 55296 ∨ (57344 ≤ b0 % 16 * 4096 + b1 % 64 * 64 + b2 % 64 ∧ b0 % 16 * 4096 + b1 % 64 * 64 + b2 % 64 ≤ 1114111))
    · rw [if_pos d]; exact big _ (Nat.le_trans (by decide) d.1) _ rfl
    · rw [if_neg d] at hb; exact absurd rfl hb
  rw [if_neg c2] at hb ⊢
  by_cases c3 : b0 / 8 = 30 ∧ (1 < n ∧ b1 / 64 = 2) ∧ (2 < n ∧ b2 / 64 = 2) ∧ 3 < n ∧ b3 / 64 = 2
  · rw [if_pos c3] at hb ⊢
    by_cases d : b0 % 8 * 262144 + b1 % 64 * 4096 + b2 % 64 * 64 + b3 % 64 ≥ 65536 ∧ (b0 % 8 * 262144 + b1 % 64 * 4096 + b2 % 64 * 64 + b3 % 64 < 55296 ∨ (57344 ≤ b0 % 8 * 262144 + b1 % 64 * 4096 + b2 % 64 * 64 + b3 % 64 ∧ b0 % 8 * 262144 + b1 % 64 * 4096 + b2 % 64 * 64 + b3 % 64 ≤ 1114111))
    · rw [if_pos d]; exact big _ (Nat.le_trans (by decide) d.1) _ rfl
    · rw [if_neg d] at hb; exact absurd rfl hb
  · rw [if_neg c3] at hb; exact absurd rfl hb
theorem lexName_eq (a : ByteArray) (h : a.size < 9223372036854775807) : lex_Name.f a = some (nameP a) := by
  have hv : Lib.validD a.data.toList = okL a a.size 0 := valid_ok a a.size 0 (by omega)
  unfold lex_Name.f utf8_ValidString.f utf8_RuneCountInString.f lex_wordy.f nameP
  simp only [if_pos h, Option.bind_some, hv]
  cases ho : okL a a.size 0 with
  | false => simp
  | true =>
  rw [wordy_all a _ _ ho, show Lib.runeCount a = (runesL a a.size 0).length from count_len a _ _ ho]
  simp only [if_true, Bool.true_and]
  by_cases hz : a.size = 0
  · have : a.toList = [] := by rw [Lib.toList_data]; exact List.length_eq_zero_iff.mp (by simpa using hz)
    rw [this]
    simp [hz, runesL]
  have hl : a.toList.isEmpty = false := by
    rw [Lib.toList_data]
    cases e : a.data.toList with
    | nil => have : a.data.toList.length = a.size := (Lib.size_eq a).symm
             rw [e] at this; simp at this; omega
    | cons x xs => rfl
  rw [hl]
  obtain ⟨g, hg⟩ : ∃ g, a.size = g + 1 := ⟨a.size - 1, by omega⟩
  have hb : Utf8.decode a 0 ≠ (65533, 1) := fun e => by
    rw [hg] at ho; simp only [okL] at ho; rw [if_pos (by omega), if_pos e] at ho; cases ho
  have hr : runesL a a.size 0 = ((Utf8.decode a 0).1 : Int) :: runesL a g (0 + (Utf8.decode a 0).2) := by
    rw [hg]; simp only [runesL]; rw [if_pos (by omega), if_neg hb]
  have hf := first_digit a (by omega) hb
  rw [hr]
  have hd : rd (((Utf8.decode a 0).1 : Int) :: runesL a g (0 + (Utf8.decode a 0).2)) 0 = ((Utf8.decode a 0).1 : Int) := by simp [rd]
  rw [hd]
  have hne : decide (((Utf8.decode a 0).1 : Int) :: runesL a g (0 + (Utf8.decode a 0).2) ≠ []) = true := by simp
  rw [hne]
  generalize runesL a g (0 + (Utf8.decode a 0).2) = tl at *
  generalize ((Utf8.decode a 0).1 : Int) = r0 at *
  simp only [Bool.not_false, Bool.and_true, Bool.true_and]
  by_cases hw : (r0 :: tl).all wordB = true
  · rw [hw, if_pos rfl, if_pos (by omega)]
    have h0 : wordB r0 = true := by simp at hw; exact hw.1
    rw [wordB_P] at h0
    have h1 := of_decide_eq_true h0
    have h2 := class_digit r0
    by_cases g1 : bt a 0 < 48
    · rw [if_pos g1]
      have : classP r0 = 2 := by
        rcases h1 with h | h
        · exact h
        · have := hf.mpr (h2.mp h); omega
      simp [this]; omega
    · by_cases g2 : bt a 0 > 57
      · rw [if_neg g1, if_pos g2]
        have : classP r0 = 2 := by
          rcases h1 with h | h
          · exact h
          · have := hf.mpr (h2.mp h); omega
        simp [this]; omega
      · rw [if_neg g1, if_neg g2]
        have : classP r0 = 3 := h2.mpr (hf.mp (by omega))
        simp [this]
  · rw [if_neg hw]
    have : (r0 :: tl).all wordB = false := by simpa using hw
    rw [this]; simp
theorem wordy_tot (r : Int) : Tot (fun k => malthouseref01_wordy.f k r) (wordB r) := by
  unfold malthouseref01_wordy.f
  refine Tot.bind (Class_tot r) ?_
  rw [wordB_P]
  by_cases h : classP r = 2
  · simp only [if_pos h, decide_eq_true (Or.inl h : classP r = 2 ∨ classP r = 3)]; exact Tot.const _
  · simp only [if_neg h]
    refine ⟨0, fun k _ => ?_⟩
    by_cases h3 : classP r = 3 <;> simp [h, h3]
theorem Name_l0 (l at' : List Int) (s : ByteArray) (hl : l.length < 9223372036854775807) : ∀ (n i : Nat), i + n = l.length → Tot (fun k => malthouseref01_Name.l0 k (i : Int) s l at') ((l.drop i).all wordB)
  | 0, i, e => by
    refine Tot.succ ?_
    simp only [malthouseref01_Name.l0, if_neg (show ¬ (i : Int) < (l.length : Int) by omega)]
    rw [List.drop_eq_nil_of_le (by omega)]; exact Tot.const _
  | n + 1, i, e => by
    refine Tot.succ ?_
    simp only [malthouseref01_Name.l0, if_pos (show (i : Int) < (l.length : Int) by omega), if_pos (show 0 ≤ (i : Int) by omega), w1 (show 0 ≤ (i : Int) by omega) (show (i : Int) < 9223372036854775807 by omega)]
    refine Tot.bind (wordy_tot _) ?_
    have hd : l.drop i = rd l (i : Int) :: l.drop (i + 1) := by
      rw [List.drop_eq_getElem_cons (by omega)]
      unfold rd; rw [Int.toNat_natCast, List.getD, List.getElem?_eq_getElem (by omega)]; rfl
    rw [hd, List.all_cons]
    cases wordB (rd l (i : Int)) with
    | true => simp only [if_true, Bool.true_and]; exact Name_l0 l at' s hl n (i + 1) (by omega)
    | false => simp only [if_neg (show ¬ (false = true) by decide), Bool.false_and]; exact Tot.const _
theorem docName_tot (a : ByteArray) (h : a.size < 17592186044416) : Tot (fun k => malthouseref01_Name.f k a) (nameP a) := by
  obtain ⟨at', hat⟩ := Runes_tot a h
  unfold malthouseref01_Name.f
  refine Tot.bind hat ?_
  unfold nameP
  have J : ∀ b : Bool, Tot (fun k => malthouseref01_Name.j0 k b a (runesL a a.size 0) at') (!b && (runesL a a.size 0).all wordB) := fun b => by
    refine Tot.succ ?_
    cases b with
    | true => simp only [malthouseref01_Name.j0, if_true]; exact Tot.const _
    | false =>
      simp only [malthouseref01_Name.j0, if_neg (show ¬ (false = true) by decide), Bool.not_false, Bool.true_and]
      have hlen : (runesL a a.size 0).length < 9223372036854775807 := by
        have : ∀ (g pos : Nat), (runesL a g pos).length ≤ g := by
          intro g
          induction g with
          | zero => intro pos; simp [runesL]
          | succ g ih =>
            intro pos
            simp only [runesL]
            split
            · split
              · simp
              · have := ih (pos + (Utf8.decode a pos).2); rw [List.length_cons]; omega
            · simp
        have := this a.size 0; omega
      have := Name_l0 (runesL a a.size 0) at' a hlen (runesL a a.size 0).length 0 (by omega)
      rw [List.drop_zero] at this; exact this
  generalize runesL a a.size 0 = l at *
  cases okL a a.size 0 with
  | false => simp only [if_neg (show ¬ (false = true) by decide), Bool.false_and]; exact J true
  | true =>
  simp only [if_true, Bool.true_and]
  by_cases h0 : (l.length : Int) = 0
  · have : l = [] := List.length_eq_zero_iff.mp (by omega)
    subst this
    simp only [List.length_nil, show (((0 : Nat) : Int) = 0) from rfl, if_true]
    exact J true
  have hne : l ≠ [] := fun e => by subst e; simp at h0
  simp only [if_neg h0, decide_eq_true hne, Bool.true_and]
  by_cases h1 : (l.length : Int) > 12
  · simp only [if_pos h1, decide_eq_false (show ¬ l.length ≤ 12 by omega), Bool.false_and]; exact J true
  simp only [if_neg h1, decide_eq_true (show l.length ≤ 12 by omega), Bool.true_and, if_pos (show 0 < (l.length : Int) by omega)]
  refine Tot.bind (Class_tot _) ?_
  by_cases h2 : classP (rd l 0) = 2
  · simp only [h2, decide_true, Bool.true_and]
    have := J false
    simpa using this
  · have e1 : (classP (rd l 0) != 2) = true := bne_iff_ne.mpr h2
    simp only [h2, decide_false, Bool.false_and, e1]; exact J true
end Go.Proofs.YtiaccdaeomaogaaDoor.F
namespace Go.Proofs.YtiaccdaeomaogaaDoor.F
open Go.RowKit Go.Proofs.YtiaccdaeomaogaaDoorW.PrintWords Go.Proofs.YtiaccdaeomaogaaDoorW.PrintLast Go.Proofs.YtiaccdaeomaogaaDoorW.PrintMore
attribute [local go_sem] max2_int min2_int max_two min_two max_three min_three max_four min_four   -- for this text's walks alone
set_option linter.unusedVariables false
set_option linter.unusedSimpArgs false
mutual
def malthouseref02_Line.j0 : Nat → Int → Bool → Option (Int)
  | 0, _, _ => none
  | k + 1, x3, x8 => if x8 = true then (some 3) else (if x3 = 4 then (malthouseref02_Line.j1 k x3 (x3 == 4)) else (malthouseref02_Line.j1 k x3 (x3 == 5)))
def malthouseref02_Line.j1 : Nat → Int → Bool → Option (Int)
  | 0, _, _ => none
  | k + 1, x3, x15 => if x15 = true then (some 4) else (if x3 = 6 then (some 5) else (if x3 = 7 then (some 5) else (if x3 = 8 then (some 5) else (some 6))))
end
def malthouseref02_Line.f (k : Nat) (a0 : Int) : Option (Int) := if a0 = 16 then (some 1) else (if a0 = 15 then (some 2) else (if a0 = 9 then (malthouseref02_Line.j0 k a0 (a0 == 9)) else (if a0 = 10 then (malthouseref02_Line.j0 k a0 (a0 == 10)) else (if a0 = 11 then (malthouseref02_Line.j0 k a0 (a0 == 11)) else (if a0 = 12 then (malthouseref02_Line.j0 k a0 (a0 == 12)) else (if a0 = 13 then (malthouseref02_Line.j0 k a0 (a0 == 13)) else (malthouseref02_Line.j0 k a0 (a0 == 14))))))))
set_option maxHeartbeats 8000000 in
set_option maxRecDepth 100000 in
theorem malthouseref02_Line.calls (k : Nat) (a0 : Int) (r : Int) (w : World) (h : malthouseref02_Line.f k a0 = some r) :
  Calls Tryd.prog 158 #[.int .i64 a0] w fun e w' => e = .returned (.int .i64 r) ∧ Drawn0 w w' := by
 have H : (if a0 = 16 then (some 1) else (if a0 = 15 then (some 2) else (if a0 = 9 then (malthouseref02_Line.j0 k a0 (a0 == 9)) else (if a0 = 10 then (malthouseref02_Line.j0 k a0 (a0 == 10)) else (if a0 = 11 then (malthouseref02_Line.j0 k a0 (a0 == 11)) else (if a0 = 12 then (malthouseref02_Line.j0 k a0 (a0 == 12)) else (if a0 = 13 then (malthouseref02_Line.j0 k a0 (a0 == 13)) else (malthouseref02_Line.j0 k a0 (a0 == 14))))))))) = some r := h
 clear h
 by_cases c2 : a0 = 16
 ·rw [if_pos c2] at H
  obtain ⟨c2b0, c2b1⟩ := qe c2
  clear c2
  obtain rfl := Option.some.inj H
  go_enter Tryd.func158, Tryd.ntmps158
  go_wp2
  go_ret
  exact ⟨by first | rfl | (simp; done) | (simp [*]; done), by repeat (first | exact Drawn0.refl _ | apply Drawn0.step)⟩
 rw [if_neg c2] at H
 obtain ⟨c2b0, c2b1⟩ := qd c2
 by_cases c3 : a0 = 15
 ·rw [if_pos c3] at H
  obtain ⟨c3b0, c3b1⟩ := qe c3
  clear c3
  obtain rfl := Option.some.inj H
  go_enter Tryd.func158, Tryd.ntmps158
  go_wp2
  go_ret
  exact ⟨by first | rfl | (simp; done) | (simp [*]; done), by repeat (first | exact Drawn0.refl _ | apply Drawn0.step)⟩
 rw [if_neg c3] at H
 obtain ⟨c3b0, c3b1⟩ := qd c3
 have HC4 := Aside0.mk H
 clear H
 go_enter Tryd.func158, Tryd.ntmps158
 go_upto_if 8 with (fail)
 go_cut [8] (fun v8 wc => ∃ (kq : Nat) (x8_3 : Bool), v8 = .bool x8_3 ∧ Aside0 (malthouseref02_Line.j0 kq a0 x8_3 = some r) ∧ Aside0 (kq ≤ k) ∧ Drawn0 w wc)
 case first =>
  have H := HC4.out
  clear HC4
  by_cases c5 : a0 = 9
  ·rw [if_pos c5] at H
   obtain ⟨c5b0, c5b1⟩ := qe c5
   clear c5
   (first | rw [c5b0] | (simp only [i64_w, i32_w]; rw [c5b0]) | skip)
   have H' := Aside0.mk H
   clear H
   go_wp2
   go_meet
   case rel => exact ⟨_, ((a0 == 9)), qv, H', ql, by repeat (first | exact Drawn0.refl _ | apply Drawn0.step)⟩
  rw [if_neg c5] at H
  obtain ⟨c5b0, c5b1⟩ := qd c5
  (first | rw [c5b0] | (simp only [i64_w, i32_w]; rw [c5b0]) | skip)
  by_cases c6 : a0 = 10
  ·rw [if_pos c6] at H
   obtain ⟨c6b0, c6b1⟩ := qe c6
   clear c6
   have H' := Aside0.mk H
   clear H
   go_wp2
   go_meet
   case rel => exact ⟨_, ((a0 == 10)), qv, H', ql, by repeat (first | exact Drawn0.refl _ | apply Drawn0.step)⟩
  rw [if_neg c6] at H
  obtain ⟨c6b0, c6b1⟩ := qd c6
  by_cases c7 : a0 = 11
  ·rw [if_pos c7] at H
   obtain ⟨c7b0, c7b1⟩ := qe c7
   clear c7
   have H' := Aside0.mk H
   clear H
   go_wp2
   go_meet
   case rel => exact ⟨_, ((a0 == 11)), qv, H', ql, by repeat (first | exact Drawn0.refl _ | apply Drawn0.step)⟩
  rw [if_neg c7] at H
  obtain ⟨c7b0, c7b1⟩ := qd c7
  by_cases c8 : a0 = 12
  ·rw [if_pos c8] at H
   obtain ⟨c8b0, c8b1⟩ := qe c8
   clear c8
   have H' := Aside0.mk H
   clear H
   go_wp2
   go_meet
   case rel => exact ⟨_, ((a0 == 12)), qv, H', ql, by repeat (first | exact Drawn0.refl _ | apply Drawn0.step)⟩
  rw [if_neg c8] at H
  obtain ⟨c8b0, c8b1⟩ := qd c8
  by_cases c9 : a0 = 13
  ·rw [if_pos c9] at H
   obtain ⟨c9b0, c9b1⟩ := qe c9
   clear c9
   have H' := Aside0.mk H
   clear H
   go_wp2
   go_meet
   case rel => exact ⟨_, ((a0 == 13)), qv, H', ql, by repeat (first | exact Drawn0.refl _ | apply Drawn0.step)⟩
  rw [if_neg c9] at H
  obtain ⟨c9b0, c9b1⟩ := qd c9
  have H' := Aside0.mk H
  clear H
  go_wp2
  go_meet
  case rel => exact ⟨_, ((a0 == 14)), qv, H', ql, by repeat (first | exact Drawn0.refl _ | apply Drawn0.step)⟩
 clear HC4
 obtain ⟨kq, x8_3, rfl, HA, HJ3, ⟨mc3, rfl⟩⟩ := hcut
 cases kq with
 | zero => exact absurd HA.out (by simp [malthouseref02_Line.j0])
 | succ kj3 =>
  have H := HA.out
  clear HA
  simp only [malthouseref02_Line.j0] at H
  by_cases c10 : x8_3 = true
  ·subst c10
   rw [if_pos rfl] at H
   obtain rfl := Option.some.inj H
   go_wp2
   go_ret
   exact ⟨by first | rfl | (simp; done) | (simp [*]; done), by repeat (first | exact Drawn0.refl _ | apply Drawn0.step)⟩
  replace c10 := Bool.eq_false_iff.mpr c10
  subst c10
  rw [if_neg qf] at H
  have HC11 := Aside0.mk H
  clear H
  go_upto_if 15 with (fail)
  go_cut [15] (fun v15 wc => ∃ (kq : Nat) (x15_10 : Bool), v15 = .bool x15_10 ∧ Aside0 (malthouseref02_Line.j1 kq a0 x15_10 = some r) ∧ Aside0 (kq ≤ kj3) ∧ Drawn0 w wc)
  case first =>
   have H := HC11.out
   clear HC11
   by_cases c12 : a0 = 4
   ·rw [if_pos c12] at H
    obtain ⟨c12b0, c12b1⟩ := qe c12
    clear c12
    (first | rw [c12b0] | (simp only [i64_w, i32_w]; rw [c12b0]) | skip)
    have H' := Aside0.mk H
    clear H
    go_wp2
    go_meet
    case rel => exact ⟨_, ((a0 == 4)), qv, H', ⟨by have := HJ3.out; first | omega | exact Nat.le_refl _⟩, by repeat (first | exact Drawn0.refl _ | apply Drawn0.step)⟩
   rw [if_neg c12] at H
   obtain ⟨c12b0, c12b1⟩ := qd c12
   (first | rw [c12b0] | (simp only [i64_w, i32_w]; rw [c12b0]) | skip)
   have H' := Aside0.mk H
   clear H
   go_wp2
   go_meet
   case rel => exact ⟨_, ((a0 == 5)), qv, H', ⟨by have := HJ3.out; first | omega | exact Nat.le_refl _⟩, by repeat (first | exact Drawn0.refl _ | apply Drawn0.step)⟩
  clear HC11
  obtain ⟨kq, x15_10, rfl, HA, HJ10, ⟨mc10, rfl⟩⟩ := hcut
  cases kq with
  | zero => exact absurd HA.out (by simp [malthouseref02_Line.j1])
  | succ kj10 =>
   have H := HA.out
   clear HA
   simp only [malthouseref02_Line.j1] at H
   by_cases c13 : x15_10 = true
   ·subst c13
    rw [if_pos rfl] at H
    obtain rfl := Option.some.inj H
    go_wp2
    go_ret
    exact ⟨by first | rfl | (simp; done) | (simp [*]; done), by repeat (first | exact Drawn0.refl _ | apply Drawn0.step)⟩
   replace c13 := Bool.eq_false_iff.mpr c13
   subst c13
   rw [if_neg qf] at H
   by_cases c14 : a0 = 6
   ·rw [if_pos c14] at H
    obtain ⟨c14b0, c14b1⟩ := qe c14
    clear c14
    obtain rfl := Option.some.inj H
    go_wp2
    go_ret
    exact ⟨by first | rfl | (simp; done) | (simp [*]; done), by repeat (first | exact Drawn0.refl _ | apply Drawn0.step)⟩
   rw [if_neg c14] at H
   obtain ⟨c14b0, c14b1⟩ := qd c14
   by_cases c15 : a0 = 7
   ·rw [if_pos c15] at H
    obtain ⟨c15b0, c15b1⟩ := qe c15
    clear c15
    obtain rfl := Option.some.inj H
    go_wp2
    go_ret
    exact ⟨by first | rfl | (simp; done) | (simp [*]; done), by repeat (first | exact Drawn0.refl _ | apply Drawn0.step)⟩
   rw [if_neg c15] at H
   obtain ⟨c15b0, c15b1⟩ := qd c15
   by_cases c16 : a0 = 8
   ·rw [if_pos c16] at H
    obtain ⟨c16b0, c16b1⟩ := qe c16
    clear c16
    obtain rfl := Option.some.inj H
    go_wp2
    go_ret
    exact ⟨by first | rfl | (simp; done) | (simp [*]; done), by repeat (first | exact Drawn0.refl _ | apply Drawn0.step)⟩
   rw [if_neg c16] at H
   obtain ⟨c16b0, c16b1⟩ := qd c16
   obtain rfl := Option.some.inj H
   go_wp2
   go_ret
   exact ⟨by first | rfl | (simp; done) | (simp [*]; done), by repeat (first | exact Drawn0.refl _ | apply Drawn0.step)⟩
end Go.Proofs.YtiaccdaeomaogaaDoor.F
