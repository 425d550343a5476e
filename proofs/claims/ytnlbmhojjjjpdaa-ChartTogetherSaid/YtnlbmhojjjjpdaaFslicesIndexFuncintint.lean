-- written by inject.py (this session's) with the kit's printer. Lean checks it.
import Derived.Test.YtnlbmhojjjjpdaaF0
import Derived.Test.YtnlbmhojjjjpdaaFchartActing
import Derived.Test.YtnlbmhojjjjpdaaFchartDone
namespace Go.Proofs.Ytnlbmhojjjjpdaa.F
open Go.RowKit Go.Proofs.YtnlbmhojjjjpdaaW.PrintWords Go.Proofs.YtnlbmhojjjjpdaaW.PrintLast Go.Proofs.YtnlbmhojjjjpdaaW.PrintMore
attribute [local go_sem] max2_int min2_int max_two min_two max_three min_three max_four min_four   -- for this text's walks alone
set_option linter.unusedVariables false
set_option linter.unusedSimpArgs false

/-! ### slices_IndexFunc_int_int: function 68 -/
theorem ret_int {k : IntKind} {a b : Int} (h : a = b) : Ending.returned (.int k a) = .returned (.int k b) := by rw [h]
theorem ret_bool {a b : Bool} (h : a = b) : Ending.returned (.bool a) = .returned (.bool b) := by rw [h]
/-- Which states act, as a Bool. -/
def actB (x : Int) : Bool := decide (x = 1 ∨ x = 6 ∨ x = 2 ∨ x = 4 ∨ x = 7 ∨ x = 9)
theorem acting_f (x : Int) : chart_Acting.f x = some (actB x) := by
  unfold chart_Acting.f chart_Done.f actB
  by_cases h1 : x = 1 <;> by_cases h6 : x = 6 <;> by_cases h2 : x = 2 <;> by_cases h4 : x = 4 <;> by_cases h7 : x = 7 <;> by_cases h9 : x = 9 <;> simp [h1, h6, h2, h4, h7, h9]
/-- The index of the first one, or -1. -/
def idxF (p : Int → Bool) (l : List Int) : Int := match l.findIdx? p with
  | some i => (i : Int)
  | none => -1
theorem rd_get (l : List Int) (j : Nat) (hj : j < l.length) : rd l (j : Int) = l[j] := by simp [rd, hj]
theorem idxF_at {p : Int → Bool} {l : List Int} {i : Int} (h0 : 0 ≤ i) (hi : i < (l.length : Int)) (hp : p (rd l i) = true) (hn : ∀ j : Int, 0 ≤ j → j < i → p (rd l j) = false) : idxF p l = i := by
  obtain ⟨n, rfl⟩ := Int.eq_ofNat_of_zero_le h0
  have hi' : n < l.length := by omega
  unfold idxF
  have : l.findIdx? p = some n := by
    rw [List.findIdx?_eq_some_iff_getElem]
    refine ⟨hi', by rw [← rd_get l n hi']; exact hp, fun j hj => ?_⟩
    rw [← rd_get l j (by omega), hn j (by omega) (by omega)]; decide
  rw [this]
theorem idxF_none {p : Int → Bool} {l : List Int} (hn : ∀ j : Int, 0 ≤ j → j < (l.length : Int) → p (rd l j) = false) : idxF p l = -1 := by
  unfold idxF
  have : l.findIdx? p = none := by
    rw [List.findIdx?_eq_none_iff]
    intro x hx
    obtain ⟨j, hj, rfl⟩ := List.mem_iff_getElem.mp hx
    rw [← rd_get l j hj]
    exact hn j (by omega) (by omega)
  rw [this]
theorem idxF_any (p : Int → Bool) (l : List Int) : decide (0 ≤ idxF p l) = l.any p := by
  unfold idxF
  cases h : l.findIdx? p with
  | none =>
    rw [List.findIdx?_eq_none_iff] at h
    have : l.any p = false := List.any_eq_false.mpr (fun x hx => by rw [h x hx]; decide)
    rw [this]; simp
  | some i =>
    rw [List.findIdx?_eq_some_iff_getElem] at h
    obtain ⟨hi, hp, _⟩ := h
    have : l.any p = true := List.any_eq_true.mpr ⟨l[i], List.getElem_mem hi, hp⟩
    rw [this]; simp
set_option maxHeartbeats 4000000 in
set_option maxRecDepth 100000 in
theorem IndexFunc_acting (A0 : Option Addr) (c0 : Nat) (l0 : List Int) (w : World) (hr0 : Kd.C (Kd.int .i64) w A0 l0.length l0) (hc0 : l0.length ≤ c0) (hm0 : l0.length ≤ 9223372036854775807) :
    Calls Try.prog 68 #[.slice A0 l0.length c0, .func (.func 37) #[] #[]] w fun e w' => e = .returned (.int .i64 (idxF actB l0)) ∧ Drawn0 w w' := by
  have HR0 := Aside0.mk hr0
  have HC0 := Aside0.mk hc0
  clear hr0 hc0
  go_enter Try.func68, Try.ntmps68
  go_wp2
  go_loopg [8] (l0.length) (fun kq v8 w' => ∃ x8 : Int, v8 = .int .i64 x8 ∧ Aside0 (0 ≤ x8 ∧ x8 ≤ (l0.length : Int) ∧ (kq : Int) = l0.length - x8 ∧ ∀ j : Int, 0 ≤ j → j < x8 → actB (rd l0 j) = false) ∧ Drawn0 w w')
  case atStart => exact ⟨0, rfl, ⟨by omega, by omega, by omega, fun j h1 h2 => by omega⟩, Drawn0.refl _⟩
  case round =>
    obtain ⟨x8, rfl, HI, ⟨m1, rfl⟩⟩ := hrel
    by_cases hlt : x8 < (l0.length : Int)
    · have c3b0 : decide (x8 < (l0.length : Int)) = true := decide_eq_true hlt
      have p155 := HI.out.1
      have q155 := hlt
      obtain ⟨ad155, e155, hx155_0⟩ := Kd.at_int HR0.out x8 p155 q155
      cases e155
      have c4b0 : decide (0 ≤ x8) = true := decide_eq_true p155
      replace p155 := eq_true p155
      replace q155 := eq_true q155
      have HLT := Aside0.mk hlt
      clear hlt
      cases hb : actB (rd l0 x8) with
      | true =>
        have A2 := Aside0.mk ((acting_f (rd l0 x8)).trans (congrArg some hb))
        have HBB := Aside0.mk hb
        clear hb
        go_wp2_with (first | (go_at_call 37; refine (chart_Acting.calls _ true _ A2.out).mono ?_; rintro e w' ⟨rfl, ⟨nd, rfl⟩⟩))
        go_ret
        exact ⟨ret_int (idxF_at HI.out.1 HLT.out HBB.out HI.out.2.2.2).symm, by repeat (first | exact Drawn0.refl _ | apply Drawn0.step)⟩
      | false =>
        have A2 := Aside0.mk ((acting_f (rd l0 x8)).trans (congrArg some hb))
        have HBB := Aside0.mk hb
        clear hb
        go_wp2_with (first | (go_at_call 37; refine (chart_Acting.calls _ false _ A2.out).mono ?_; rintro e w' ⟨rfl, ⟨nd, rfl⟩⟩))
        go_roundg (l0.length - (x8 + 1)).toNat
        case measure => have := HLT.out; have := HI.out.2.2.1; omega
        case rel => exact ⟨x8 + 1, by rw [show wrap64 (x8 + 1) = x8 + 1 from by have := HI.out.1; have := HLT.out; unfold wrap64; omega], ⟨by have := HI.out.1; omega, by have := HLT.out; omega, by have := HLT.out; omega, fun j h1 h2 => by rcases Int.lt_or_eq_of_le (show j ≤ x8 by omega) with h | rfl; exact HI.out.2.2.2 j h1 h; exact HBB.out⟩, by repeat (first | exact Drawn0.refl _ | apply Drawn0.step)⟩
    · have c3b0 : decide (x8 < (l0.length : Int)) = false := decide_eq_false hlt
      have HLT := Aside0.mk hlt
      clear hlt
      go_wp2
      go_ret
      exact ⟨ret_int (idxF_none (fun j h1 h2 => HI.out.2.2.2 j h1 (by have := HLT.out; omega))).symm, by repeat (first | exact Drawn0.refl _ | apply Drawn0.step)⟩

end Go.Proofs.Ytnlbmhojjjjpdaa.F
