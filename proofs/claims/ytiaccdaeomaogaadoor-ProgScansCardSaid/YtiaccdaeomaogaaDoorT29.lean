/- Texts of one claim, slimmed and merged by slim.py. -/
import Derived.Test.YtiaccdaeomaogaaDoorT4
import Derived.Test.YtiaccdaeomaogaaDoorT28
namespace Go.Proofs.YtiaccdaeomaogaaDoor.F
open Go.RowKit Go.Proofs.YtiaccdaeomaogaaDoorW.PrintWords Go.Proofs.YtiaccdaeomaogaaDoorW.PrintLast Go.Proofs.YtiaccdaeomaogaaDoorW.PrintMore
attribute [local go_sem] max2_int min2_int max_two min_two max_three min_three max_four min_four   -- for this text's walks alone
set_option linter.unusedVariables false
set_option linter.unusedSimpArgs false
mutual
def malthouseref02_Mul.j0 : Nat → Int → Int → Bool → Option (Int × Bool)
  | 0, _, _, _ => none
  | k + 1, x0, x1, x12 => if x12 = true then (some (0, true)) else (if x0 = (-1) then (if x1 = (-9223372036854775808) then (malthouseref02_Mul.j1 k x0 x1 true) else (if x1 = (-1) then (malthouseref02_Mul.j1 k x0 x1 (x0 == (-9223372036854775808))) else (malthouseref02_Mul.j1 k x0 x1 false))) else (if x1 = (-1) then (malthouseref02_Mul.j1 k x0 x1 (x0 == (-9223372036854775808))) else (malthouseref02_Mul.j1 k x0 x1 false)))
def malthouseref02_Mul.j1 : Nat → Int → Int → Bool → Option (Int × Bool)
  | 0, _, _, _ => none
  | k + 1, x0, x1, x26 => if x26 = true then (some (0, false)) else (if x1 = 0 then (none) else (if (wrap64 (Int.tdiv (wrap64 (x0 * x1)) x1)) = x0 then (some (wrap64 (x0 * x1), true)) else (some (0, false))))
end
def malthouseref02_Mul.f (k : Nat) (a0 : Int) (a1 : Int) : Option (Int × Bool) := if a0 = 0 then (malthouseref02_Mul.j0 k a0 a1 true) else (malthouseref02_Mul.j0 k a0 a1 (a1 == 0))
set_option maxHeartbeats 8000000 in
set_option maxRecDepth 100000 in
theorem malthouseref02_Mul.calls (k : Nat) (a0 : Int) (a1 : Int) (r1 : Int) (r2 : Bool) (w : World) (h : malthouseref02_Mul.f k a0 a1 = some (r1, r2)) :
    Calls Tryd.prog 155 #[.int .i64 a0, .int .i64 a1] w fun e w' => e = .returned (.tuple #[.int .i64 r1, .bool r2]) ∧ Drawn0 w w' := by
  have H : (if a0 = 0 then (malthouseref02_Mul.j0 k a0 a1 true) else (malthouseref02_Mul.j0 k a0 a1 (a1 == 0))) = some (r1, r2) := h
  clear h
  have HC3 := Aside0.mk H
  clear H
  go_enter Tryd.func155, Tryd.ntmps155
  go_upto_region 1 with (fail)
  go_cut [12] (fun v12 wc => ∃ (kq : Nat) (x12_2 : Bool), v12 = .bool x12_2 ∧ Aside0 (malthouseref02_Mul.j0 kq a0 a1 x12_2 = some (r1, r2)) ∧ Aside0 (kq ≤ k) ∧ Drawn0 w wc)
  case first =>
    have H := HC3.out
    clear HC3
    by_cases c4 : a0 = 0
    · rw [if_pos c4] at H
      obtain ⟨c4b0, c4b1⟩ := qe c4
      clear c4
      (first | rw [c4b0] | (simp only [i64_w, i32_w]; rw [c4b0]) | skip)
      have H' := Aside0.mk H
      clear H
      go_wp2
      go_meet
      case rel => exact ⟨_, (true), qv, H', ql, by repeat (first | exact Drawn0.refl _ | apply Drawn0.step)⟩
    rw [if_neg c4] at H
    obtain ⟨c4b0, c4b1⟩ := qd c4
    (first | rw [c4b0] | (simp only [i64_w, i32_w]; rw [c4b0]) | skip)
    have H' := Aside0.mk H
    clear H
    go_wp2
    go_meet
    case rel => exact ⟨_, ((a1 == 0)), qv, H', ql, by repeat (first | exact Drawn0.refl _ | apply Drawn0.step)⟩
  clear HC3
  obtain ⟨kq, x12_2, rfl, HA, HJ2, ⟨mc2, rfl⟩⟩ := hcut
  cases kq with
  | zero => exact absurd HA.out (by simp [malthouseref02_Mul.j0])
  | succ kj2 =>
    have H := HA.out
    clear HA
    simp only [malthouseref02_Mul.j0] at H
    by_cases c5 : x12_2 = true
    · subst c5
      rw [if_pos rfl] at H
      simp only [Option.some.injEq, Prod.mk.injEq] at H
      obtain ⟨rfl, rfl⟩ := H
      go_wp2
      go_ret2
      exact ⟨by first | rfl | (simp; done) | (simp [*]; done), by repeat (first | exact Drawn0.refl _ | apply Drawn0.step)⟩
    replace c5 := Bool.eq_false_iff.mpr c5
    subst c5
    rw [if_neg qf] at H
    have HC6 := Aside0.mk H
    clear H
    go_upto_region 3 with (fail)
    go_cut [26] (fun v26 wc => ∃ (kq : Nat) (x26_5 : Bool), v26 = .bool x26_5 ∧ Aside0 (malthouseref02_Mul.j1 kq a0 a1 x26_5 = some (r1, r2)) ∧ Aside0 (kq ≤ kj2) ∧ Drawn0 w wc)
    case first =>
      have H := HC6.out
      clear HC6
      by_cases c7 : a0 = (-1)
      · rw [if_pos c7] at H
        obtain ⟨c7b0, c7b1⟩ := qe c7
        clear c7
        (first | rw [c7b0] | (simp only [i64_w, i32_w]; rw [c7b0]) | skip)
        by_cases c8 : a1 = (-9223372036854775808)
        · rw [if_pos c8] at H
          obtain ⟨c8b0, c8b1⟩ := qe c8
          clear c8
          have H' := Aside0.mk H
          clear H
          go_wp2
          go_meet
          case rel => exact ⟨_, (true), qv, H', ⟨by have := HJ2.out; first | omega | exact Nat.le_refl _⟩, by repeat (first | exact Drawn0.refl _ | apply Drawn0.step)⟩
        rw [if_neg c8] at H
        obtain ⟨c8b0, c8b1⟩ := qd c8
        by_cases c9 : a1 = (-1)
        · rw [if_pos c9] at H
          obtain ⟨c9b0, c9b1⟩ := qe c9
          clear c9
          have H' := Aside0.mk H
          clear H
          go_wp2
          go_meet
          case rel => exact ⟨_, ((a0 == (-9223372036854775808))), qv, H', ⟨by have := HJ2.out; first | omega | exact Nat.le_refl _⟩, by repeat (first | exact Drawn0.refl _ | apply Drawn0.step)⟩
        rw [if_neg c9] at H
        obtain ⟨c9b0, c9b1⟩ := qd c9
        have H' := Aside0.mk H
        clear H
        go_wp2
        go_meet
        case rel => exact ⟨_, (false), qv, H', ⟨by have := HJ2.out; first | omega | exact Nat.le_refl _⟩, by repeat (first | exact Drawn0.refl _ | apply Drawn0.step)⟩
      rw [if_neg c7] at H
      obtain ⟨c7b0, c7b1⟩ := qd c7
      (first | rw [c7b0] | (simp only [i64_w, i32_w]; rw [c7b0]) | skip)
      by_cases c10 : a1 = (-1)
      · rw [if_pos c10] at H
        obtain ⟨c10b0, c10b1⟩ := qe c10
        clear c10
        have H' := Aside0.mk H
        clear H
        go_wp2
        go_meet
        case rel => exact ⟨_, ((a0 == (-9223372036854775808))), qv, H', ⟨by have := HJ2.out; first | omega | exact Nat.le_refl _⟩, by repeat (first | exact Drawn0.refl _ | apply Drawn0.step)⟩
      rw [if_neg c10] at H
      obtain ⟨c10b0, c10b1⟩ := qd c10
      have H' := Aside0.mk H
      clear H
      go_wp2
      go_meet
      case rel => exact ⟨_, (false), qv, H', ⟨by have := HJ2.out; first | omega | exact Nat.le_refl _⟩, by repeat (first | exact Drawn0.refl _ | apply Drawn0.step)⟩
    clear HC6
    obtain ⟨kq, x26_5, rfl, HA, HJ5, ⟨mc5, rfl⟩⟩ := hcut
    cases kq with
    | zero => exact absurd HA.out (by simp [malthouseref02_Mul.j1])
    | succ kj5 =>
      have H := HA.out
      clear HA
      simp only [malthouseref02_Mul.j1] at H
      by_cases c11 : x26_5 = true
      · subst c11
        rw [if_pos rfl] at H
        simp only [Option.some.injEq, Prod.mk.injEq] at H
        obtain ⟨rfl, rfl⟩ := H
        go_wp2
        go_ret2
        exact ⟨by first | rfl | (simp; done) | (simp [*]; done), by repeat (first | exact Drawn0.refl _ | apply Drawn0.step)⟩
      replace c11 := Bool.eq_false_iff.mpr c11
      subst c11
      rw [if_neg qf] at H
      by_cases c12 : a1 = 0
      · rw [if_pos c12] at H
        exact absurd H (by simp)
      rw [if_neg c12] at H
      obtain ⟨c12b0, c12b1⟩ := qd c12
      by_cases c13 : (wrap64 (Int.tdiv (wrap64 (a0 * a1)) a1)) = a0
      · rw [if_pos c13] at H
        obtain ⟨c13b0, c13b1⟩ := qe c13
        clear c13
        simp only [Option.some.injEq, Prod.mk.injEq] at H
        obtain ⟨rfl, rfl⟩ := H
        go_wp2
        go_ret2
        exact ⟨by first | rfl | (simp; done) | (simp [*]; done), by repeat (first | exact Drawn0.refl _ | apply Drawn0.step)⟩
      rw [if_neg c13] at H
      obtain ⟨c13b0, c13b1⟩ := qd c13
      simp only [Option.some.injEq, Prod.mk.injEq] at H
      obtain ⟨rfl, rfl⟩ := H
      go_wp2
      go_ret2
      exact ⟨by first | rfl | (simp; done) | (simp [*]; done), by repeat (first | exact Drawn0.refl _ | apply Drawn0.step)⟩
def malthouseref02_Sub.f (a0 : Int) (a1 : Int) : Option (Int × Bool) := if a1 < 0 then (if a0 > (wrap64 (9223372036854775807 + a1)) then (some (0, false)) else (if a1 > 0 then (if a0 < (wrap64 ((-9223372036854775808) + a1)) then (some (0, false)) else (some (wrap64 (a0 - a1), true))) else (some (wrap64 (a0 - a1), true)))) else (if a1 > 0 then (if a0 < (wrap64 ((-9223372036854775808) + a1)) then (some (0, false)) else (some (wrap64 (a0 - a1), true))) else (some (wrap64 (a0 - a1), true)))
set_option maxHeartbeats 8000000 in
set_option maxRecDepth 100000 in
theorem malthouseref02_Sub.calls (a0 : Int) (a1 : Int) (r1 : Int) (r2 : Bool) (w : World) (h : malthouseref02_Sub.f a0 a1 = some (r1, r2)) :
  Calls Tryd.prog 154 #[.int .i64 a0, .int .i64 a1] w fun e w' => e = .returned (.tuple #[.int .i64 r1, .bool r2]) ∧ Drawn0 w w' := by
 have H : (if a1 < 0 then (if a0 > (wrap64 (9223372036854775807 + a1)) then (some (0, false)) else (if a1 > 0 then (if a0 < (wrap64 ((-9223372036854775808) + a1)) then (some (0, false)) else (some (wrap64 (a0 - a1), true))) else (some (wrap64 (a0 - a1), true)))) else (if a1 > 0 then (if a0 < (wrap64 ((-9223372036854775808) + a1)) then (some (0, false)) else (some (wrap64 (a0 - a1), true))) else (some (wrap64 (a0 - a1), true)))) = some (r1, r2) := h
 clear h
 by_cases c3 : a1 < 0
 ·rw [if_pos c3] at H
  have c3b0 : decide (a1 < 0) = true := decide_eq_true c3
  clear c3
  by_cases c4 : a0 > (wrap64 (9223372036854775807 + a1))
  ·rw [if_pos c4] at H
   have c4b0 : decide ((wrap64 (9223372036854775807 + a1)) < a0) = true := decide_eq_true c4
   clear c4
   simp only [Option.some.injEq, Prod.mk.injEq] at H
   obtain ⟨rfl, rfl⟩ := H
   go_enter Tryd.func154, Tryd.ntmps154
   go_wp2
   go_ret2
   exact ⟨by first | rfl | (simp; done) | (simp [*]; done), by repeat (first | exact Drawn0.refl _ | apply Drawn0.step)⟩
  rw [if_neg c4] at H
  have c4b0 : decide ((wrap64 (9223372036854775807 + a1)) < a0) = false := decide_eq_false c4
  clear c4
  by_cases c5 : a1 > 0
  ·rw [if_pos c5] at H
   have c5b0 : decide (0 < a1) = true := decide_eq_true c5
   clear c5
   by_cases c6 : a0 < (wrap64 ((-9223372036854775808) + a1))
   ·rw [if_pos c6] at H
    have c6b0 : decide (a0 < (wrap64 ((-9223372036854775808) + a1))) = true := decide_eq_true c6
    clear c6
    simp only [Option.some.injEq, Prod.mk.injEq] at H
    obtain ⟨rfl, rfl⟩ := H
    go_enter Tryd.func154, Tryd.ntmps154
    go_wp2
    go_ret2
    exact ⟨by first | rfl | (simp; done) | (simp [*]; done), by repeat (first | exact Drawn0.refl _ | apply Drawn0.step)⟩
   rw [if_neg c6] at H
   have c6b0 : decide (a0 < (wrap64 ((-9223372036854775808) + a1))) = false := decide_eq_false c6
   clear c6
   simp only [Option.some.injEq, Prod.mk.injEq] at H
   obtain ⟨rfl, rfl⟩ := H
   go_enter Tryd.func154, Tryd.ntmps154
   go_wp2
   go_ret2
   exact ⟨by first | rfl | (simp; done) | (simp [*]; done), by repeat (first | exact Drawn0.refl _ | apply Drawn0.step)⟩
  rw [if_neg c5] at H
  have c5b0 : decide (0 < a1) = false := decide_eq_false c5
  clear c5
  simp only [Option.some.injEq, Prod.mk.injEq] at H
  obtain ⟨rfl, rfl⟩ := H
  go_enter Tryd.func154, Tryd.ntmps154
  go_wp2
  go_ret2
  exact ⟨by first | rfl | (simp; done) | (simp [*]; done), by repeat (first | exact Drawn0.refl _ | apply Drawn0.step)⟩
 rw [if_neg c3] at H
 have c3b0 : decide (a1 < 0) = false := decide_eq_false c3
 clear c3
 by_cases c7 : a1 > 0
 ·rw [if_pos c7] at H
  have c7b0 : decide (0 < a1) = true := decide_eq_true c7
  clear c7
  by_cases c8 : a0 < (wrap64 ((-9223372036854775808) + a1))
  ·rw [if_pos c8] at H
   have c8b0 : decide (a0 < (wrap64 ((-9223372036854775808) + a1))) = true := decide_eq_true c8
   clear c8
   simp only [Option.some.injEq, Prod.mk.injEq] at H
   obtain ⟨rfl, rfl⟩ := H
   go_enter Tryd.func154, Tryd.ntmps154
   go_wp2
   go_ret2
   exact ⟨by first | rfl | (simp; done) | (simp [*]; done), by repeat (first | exact Drawn0.refl _ | apply Drawn0.step)⟩
  rw [if_neg c8] at H
  have c8b0 : decide (a0 < (wrap64 ((-9223372036854775808) + a1))) = false := decide_eq_false c8
  clear c8
  simp only [Option.some.injEq, Prod.mk.injEq] at H
  obtain ⟨rfl, rfl⟩ := H
  go_enter Tryd.func154, Tryd.ntmps154
  go_wp2
  go_ret2
  exact ⟨by first | rfl | (simp; done) | (simp [*]; done), by repeat (first | exact Drawn0.refl _ | apply Drawn0.step)⟩
 rw [if_neg c7] at H
 have c7b0 : decide (0 < a1) = false := decide_eq_false c7
 clear c7
 simp only [Option.some.injEq, Prod.mk.injEq] at H
 obtain ⟨rfl, rfl⟩ := H
 go_enter Tryd.func154, Tryd.ntmps154
 go_wp2
 go_ret2
 exact ⟨by first | rfl | (simp; done) | (simp [*]; done), by repeat (first | exact Drawn0.refl _ | apply Drawn0.step)⟩
def malthouseref02_truth.f (a0 : Bool) : Option (Int) := if a0 = true then (some 1) else (some 0)
set_option maxHeartbeats 8000000 in
set_option maxRecDepth 100000 in
theorem malthouseref02_truth.calls (a0 : Bool) (r : Int) (w : World) (h : malthouseref02_truth.f a0 = some r) :
  Calls Tryd.prog 137 #[.bool a0] w fun e w' => e = .returned (.int .i64 r) ∧ Drawn0 w w' := by
 have H : (if a0 = true then (some 1) else (some 0)) = some r := h
 clear h
 by_cases c2 : a0 = true
 ·subst c2
  rw [if_pos rfl] at H
  obtain rfl := Option.some.inj H
  go_enter Tryd.func137, Tryd.ntmps137
  go_wp2
  go_ret
  exact ⟨by first | rfl | (simp; done) | (simp [*]; done), by repeat (first | exact Drawn0.refl _ | apply Drawn0.step)⟩
 replace c2 := Bool.eq_false_iff.mpr c2
 subst c2
 rw [if_neg qf] at H
 obtain rfl := Option.some.inj H
 go_enter Tryd.func137, Tryd.ntmps137
 go_wp2
 go_ret
 exact ⟨by first | rfl | (simp; done) | (simp [*]; done), by repeat (first | exact Drawn0.refl _ | apply Drawn0.step)⟩
def malthouseref02_Two.j0 : Nat → Int → Int → Int → Int → Bool → Int → Bool → Option (Int × Int)
  | 0, _, _, _, _, _, _, _ => none
  | k + 1, x0, x1, x2, x8, x9, x10, x35 => if x35 = true then (if x2 = 0 then (some (0, 23)) else (if x2 = (-1) then ((malthouseref02_Sub.f 0 x1).bind fun bt107 => (if x0 = 8 then (some (0, 0)) else (if bt107.2 = true then (some (bt107.1, 0)) else (some (0, 22))))) else (if x0 = 7 then (if x9 = true then (some (wrap64 (Int.tdiv x1 x2), 0)) else (some (0, 22))) else (if x9 = true then (some (Int.tmod x1 x2, 0)) else (some (0, 22)))))) else (if x10 = 9 then ((malthouseref02_truth.f (decide (x1 < x2))).bind fun t109 => (if x9 = true then (some (t109, 0)) else (some (0, 22)))) else (if x10 = 10 then ((malthouseref02_truth.f (decide (x1 ≤ x2))).bind fun t110 => (if x9 = true then (some (t110, 0)) else (some (0, 22)))) else (if x10 = 11 then ((malthouseref02_truth.f (decide (x1 > x2))).bind fun t111 => (if x9 = true then (some (t111, 0)) else (some (0, 22)))) else (if x10 = 12 then ((malthouseref02_truth.f (decide (x1 ≥ x2))).bind fun t112 => (if x9 = true then (some (t112, 0)) else (some (0, 22)))) else (if x10 = 13 then ((malthouseref02_truth.f (x1 == x2)).bind fun t113 => (if x9 = true then (some (t113, 0)) else (some (0, 22)))) else (if x10 = 14 then ((malthouseref02_truth.f (x1 != x2)).bind fun t114 => (if x9 = true then (some (t114, 0)) else (some (0, 22)))) else (if x10 = 15 then (if x1 = 0 then ((malthouseref02_truth.f false).bind fun t115 => (if x9 = true then (some (t115, 0)) else (some (0, 22)))) else ((malthouseref02_truth.f (x2 != 0)).bind fun t116 => (if x9 = true then (some (t116, 0)) else (some (0, 22))))) else (if x10 = 16 then (if x1 = 0 then ((malthouseref02_truth.f (x2 != 0)).bind fun t117 => (if x9 = true then (some (t117, 0)) else (some (0, 22)))) else ((malthouseref02_truth.f true).bind fun t118 => (if x9 = true then (some (t118, 0)) else (some (0, 22))))) else (if x9 = true then (some (x8, 0)) else (some (0, 22)))))))))))
def malthouseref02_Two.f (k : Nat) (a0 : Int) (a1 : Int) (a2 : Int) : Option (Int × Int) := if a0 = 4 then ((malthouseref02_Add.f a1 a2).bind fun bt101 => (if bt101.2 = true then (some (bt101.1, 0)) else (some (0, 22)))) else (if a0 = 5 then ((malthouseref02_Sub.f a1 a2).bind fun bt103 => (if bt103.2 = true then (some (bt103.1, 0)) else (some (0, 22)))) else (if a0 = 6 then ((malthouseref02_Mul.f k a1 a2).bind fun bt105 => (if bt105.2 = true then (some (bt105.1, 0)) else (some (0, 22)))) else (if a0 = 7 then (malthouseref02_Two.j0 k a0 a1 a2 0 true a0 (a0 == 7)) else (malthouseref02_Two.j0 k a0 a1 a2 0 true a0 (a0 == 8)))))
set_option maxHeartbeats 8000000 in
set_option maxRecDepth 100000 in
theorem malthouseref02_Two.calls (k : Nat) (a0 : Int) (a1 : Int) (a2 : Int) (r1 : Int) (r2 : Int) (w : World) (h : malthouseref02_Two.f k a0 a1 a2 = some (r1, r2)) :
  Calls Tryd.prog 136 #[.int .i64 a0, .int .i64 a1, .int .i64 a2] w fun e w' => e = .returned (.tuple #[.int .i64 r1, .int .i64 r2]) ∧ Drawn0 w w' := by
 have H : (if a0 = 4 then ((malthouseref02_Add.f a1 a2).bind fun bt101 => (if bt101.2 = true then (some (bt101.1, 0)) else (some (0, 22)))) else (if a0 = 5 then ((malthouseref02_Sub.f a1 a2).bind fun bt103 => (if bt103.2 = true then (some (bt103.1, 0)) else (some (0, 22)))) else (if a0 = 6 then ((malthouseref02_Mul.f k a1 a2).bind fun bt105 => (if bt105.2 = true then (some (bt105.1, 0)) else (some (0, 22)))) else (if a0 = 7 then (malthouseref02_Two.j0 k a0 a1 a2 0 true a0 (a0 == 7)) else (malthouseref02_Two.j0 k a0 a1 a2 0 true a0 (a0 == 8)))))) = some (r1, r2) := h
 clear h
 by_cases c4 : a0 = 4
 ·rw [if_pos c4] at H
  obtain ⟨c4b0, c4b1⟩ := qe c4
  clear c4
  replace H := qi H
  obtain ⟨⟨t101, t102⟩, A5, H⟩ := H
  replace H : (if t102 = true then (some (t101, 0)) else (some (0, 22))) = some (r1, r2) := H
  by_cases c6 : t102 = true
  ·subst c6
   rw [if_pos rfl] at H
   simp only [Option.some.injEq, Prod.mk.injEq] at H
   obtain ⟨rfl, rfl⟩ := H
   go_enter Tryd.func136, Tryd.ntmps136
   go_wp2_with (first | ((with_reducible refine gate_callee (f := 153) rfl ?_); refine goesL_ (some 16) rfl rfl Tryd.func153 (by kernel_rfl) rfl #[.int .i64 a1, .int .i64 a2] rfl qm ?_; (with_reducible refine (malthouseref02_Add.calls a1 a2 t101 true _ A5.out).mono ?_); rintro e w' ⟨rfl, ⟨nd, rfl⟩⟩; refine ⟨_, rfl, ?_⟩))
   go_ret2
   exact ⟨by first | rfl | (simp; done) | (simp [*]; done), by repeat (first | exact Drawn0.refl _ | apply Drawn0.step)⟩
  replace c6 := Bool.eq_false_iff.mpr c6
  subst c6
  rw [if_neg qf] at H
  simp only [Option.some.injEq, Prod.mk.injEq] at H
  obtain ⟨rfl, rfl⟩ := H
  go_enter Tryd.func136, Tryd.ntmps136
  go_wp2_with (first | ((with_reducible refine gate_callee (f := 153) rfl ?_); refine goesL_ (some 16) rfl rfl Tryd.func153 (by kernel_rfl) rfl #[.int .i64 a1, .int .i64 a2] rfl qm ?_; (with_reducible refine (malthouseref02_Add.calls a1 a2 t101 false _ A5.out).mono ?_); rintro e w' ⟨rfl, ⟨nd, rfl⟩⟩; refine ⟨_, rfl, ?_⟩))
  go_ret2
  exact ⟨by first | rfl | (simp; done) | (simp [*]; done), by repeat (first | exact Drawn0.refl _ | apply Drawn0.step)⟩
 rw [if_neg c4] at H
 obtain ⟨c4b0, c4b1⟩ := qd c4
 by_cases c7 : a0 = 5
 ·rw [if_pos c7] at H
  obtain ⟨c7b0, c7b1⟩ := qe c7
  clear c7
  replace H := qi H
  obtain ⟨⟨t103, t104⟩, A8, H⟩ := H
  replace H : (if t104 = true then (some (t103, 0)) else (some (0, 22))) = some (r1, r2) := H
  by_cases c9 : t104 = true
  ·subst c9
   rw [if_pos rfl] at H
   simp only [Option.some.injEq, Prod.mk.injEq] at H
   obtain ⟨rfl, rfl⟩ := H
   go_enter Tryd.func136, Tryd.ntmps136
   go_wp2_with (first | ((with_reducible refine gate_callee (f := 154) rfl ?_); refine goesL_ (some 24) rfl rfl Tryd.func154 (by kernel_rfl) rfl #[.int .i64 a1, .int .i64 a2] rfl qm ?_; (with_reducible refine (malthouseref02_Sub.calls a1 a2 t103 true _ A8.out).mono ?_); rintro e w' ⟨rfl, ⟨nd, rfl⟩⟩; refine ⟨_, rfl, ?_⟩))
   go_ret2
   exact ⟨by first | rfl | (simp; done) | (simp [*]; done), by repeat (first | exact Drawn0.refl _ | apply Drawn0.step)⟩
  replace c9 := Bool.eq_false_iff.mpr c9
  subst c9
  rw [if_neg qf] at H
  simp only [Option.some.injEq, Prod.mk.injEq] at H
  obtain ⟨rfl, rfl⟩ := H
  go_enter Tryd.func136, Tryd.ntmps136
  go_wp2_with (first | ((with_reducible refine gate_callee (f := 154) rfl ?_); refine goesL_ (some 24) rfl rfl Tryd.func154 (by kernel_rfl) rfl #[.int .i64 a1, .int .i64 a2] rfl qm ?_; (with_reducible refine (malthouseref02_Sub.calls a1 a2 t103 false _ A8.out).mono ?_); rintro e w' ⟨rfl, ⟨nd, rfl⟩⟩; refine ⟨_, rfl, ?_⟩))
  go_ret2
  exact ⟨by first | rfl | (simp; done) | (simp [*]; done), by repeat (first | exact Drawn0.refl _ | apply Drawn0.step)⟩
 rw [if_neg c7] at H
 obtain ⟨c7b0, c7b1⟩ := qd c7
 by_cases c10 : a0 = 6
 ·rw [if_pos c10] at H
  obtain ⟨c10b0, c10b1⟩ := qe c10
  clear c10
  replace H := qi H
  obtain ⟨⟨t105, t106⟩, A11, H⟩ := H
  replace H : (if t106 = true then (some (t105, 0)) else (some (0, 22))) = some (r1, r2) := H
  by_cases c12 : t106 = true
  ·subst c12
   rw [if_pos rfl] at H
   simp only [Option.some.injEq, Prod.mk.injEq] at H
   obtain ⟨rfl, rfl⟩ := H
   go_enter Tryd.func136, Tryd.ntmps136
   go_wp2_with (first | ((with_reducible refine gate_callee (f := 155) rfl ?_); refine goesL_ (some 32) rfl rfl Tryd.func155 (by kernel_rfl) rfl #[.int .i64 a1, .int .i64 a2] rfl qm ?_; (with_reducible refine (malthouseref02_Mul.calls k a1 a2 t105 true _ A11.out).mono ?_); rintro e w' ⟨rfl, ⟨nd, rfl⟩⟩; refine ⟨_, rfl, ?_⟩))
   go_ret2
   exact ⟨by first | rfl | (simp; done) | (simp [*]; done), by repeat (first | exact Drawn0.refl _ | apply Drawn0.step)⟩
  replace c12 := Bool.eq_false_iff.mpr c12
  subst c12
  rw [if_neg qf] at H
  simp only [Option.some.injEq, Prod.mk.injEq] at H
  obtain ⟨rfl, rfl⟩ := H
  go_enter Tryd.func136, Tryd.ntmps136
  go_wp2_with (first | ((with_reducible refine gate_callee (f := 155) rfl ?_); refine goesL_ (some 32) rfl rfl Tryd.func155 (by kernel_rfl) rfl #[.int .i64 a1, .int .i64 a2] rfl qm ?_; (with_reducible refine (malthouseref02_Mul.calls k a1 a2 t105 false _ A11.out).mono ?_); rintro e w' ⟨rfl, ⟨nd, rfl⟩⟩; refine ⟨_, rfl, ?_⟩))
  go_ret2
  exact ⟨by first | rfl | (simp; done) | (simp [*]; done), by repeat (first | exact Drawn0.refl _ | apply Drawn0.step)⟩
 rw [if_neg c10] at H
 obtain ⟨c10b0, c10b1⟩ := qd c10
 have HC13 := Aside0.mk H
 clear H
 go_enter Tryd.func136, Tryd.ntmps136
 go_upto_if 35 with (fail)
 go_cut [35] (fun v35 wc => ∃ (kq : Nat) (x35_12 : Bool), v35 = .bool x35_12 ∧ Aside0 (malthouseref02_Two.j0 kq a0 a1 a2 0 true a0 x35_12 = some (r1, r2)) ∧ Aside0 (kq ≤ k) ∧ Drawn0 w wc)
 case first =>
  have H := HC13.out
  clear HC13
  by_cases c14 : a0 = 7
  ·rw [if_pos c14] at H
   obtain ⟨c14b0, c14b1⟩ := qe c14
   clear c14
   (first | rw [c14b0] | (simp only [i64_w, i32_w]; rw [c14b0]) | skip)
   have H' := Aside0.mk H
   clear H
   go_wp2
   go_meet
   case rel => exact ⟨_, ((a0 == 7)), qv, H', ql, by repeat (first | exact Drawn0.refl _ | apply Drawn0.step)⟩
  rw [if_neg c14] at H
  obtain ⟨c14b0, c14b1⟩ := qd c14
  (first | rw [c14b0] | (simp only [i64_w, i32_w]; rw [c14b0]) | skip)
  have H' := Aside0.mk H
  clear H
  go_wp2
  go_meet
  case rel => exact ⟨_, ((a0 == 8)), qv, H', ql, by repeat (first | exact Drawn0.refl _ | apply Drawn0.step)⟩
 clear HC13
 obtain ⟨kq, x35_12, rfl, HA, HJ12, ⟨mc12, rfl⟩⟩ := hcut
 cases kq with
 | zero => exact absurd HA.out (by simp [malthouseref02_Two.j0])
 | succ kj12 =>
  have H := HA.out
  clear HA
  simp only [malthouseref02_Two.j0] at H
  by_cases c15 : x35_12 = true
  ·subst c15
   rw [if_pos rfl] at H
   by_cases c16 : a2 = 0
   ·rw [if_pos c16] at H
    obtain ⟨c16b0, c16b1⟩ := qe c16
    clear c16
    simp only [Option.some.injEq, Prod.mk.injEq] at H
    obtain ⟨rfl, rfl⟩ := H
    go_wp2
    go_ret2
    exact ⟨by first | rfl | (simp; done) | (simp [*]; done), by repeat (first | exact Drawn0.refl _ | apply Drawn0.step)⟩
   rw [if_neg c16] at H
   obtain ⟨c16b0, c16b1⟩ := qd c16
   by_cases c17 : a2 = (-1)
   ·rw [if_pos c17] at H
    obtain ⟨c17b0, c17b1⟩ := qe c17
    clear c17
    replace H := qi H
    obtain ⟨⟨t107, t108⟩, A18, H⟩ := H
    replace H : (if a0 = 8 then (some (0, 0)) else (if t108 = true then (some (t107, 0)) else (some (0, 22)))) = some (r1, r2) := H
    by_cases c19 : a0 = 8
    ·rw [if_pos c19] at H
     obtain ⟨c19b0, c19b1⟩ := qe c19
     clear c19
     simp only [Option.some.injEq, Prod.mk.injEq] at H
     obtain ⟨rfl, rfl⟩ := H
     go_wp2_with (first | ((with_reducible refine gate_callee (f := 154) rfl ?_); refine goesL_ (some 44) rfl rfl Tryd.func154 (by kernel_rfl) rfl #[.int .i64 0, .int .i64 a1] rfl qm ?_; (with_reducible refine (malthouseref02_Sub.calls 0 a1 t107 t108 _ A18.out).mono ?_); rintro e w' ⟨rfl, ⟨nd, rfl⟩⟩; refine ⟨_, rfl, ?_⟩))
     go_ret2
     exact ⟨by first | rfl | (simp; done) | (simp [*]; done), by repeat (first | exact Drawn0.refl _ | apply Drawn0.step)⟩
    rw [if_neg c19] at H
    obtain ⟨c19b0, c19b1⟩ := qd c19
    by_cases c20 : t108 = true
    ·subst c20
     rw [if_pos rfl] at H
     simp only [Option.some.injEq, Prod.mk.injEq] at H
     obtain ⟨rfl, rfl⟩ := H
     go_wp2_with (first | ((with_reducible refine gate_callee (f := 154) rfl ?_); refine goesL_ (some 44) rfl rfl Tryd.func154 (by kernel_rfl) rfl #[.int .i64 0, .int .i64 a1] rfl qm ?_; (with_reducible refine (malthouseref02_Sub.calls 0 a1 t107 true _ A18.out).mono ?_); rintro e w' ⟨rfl, ⟨nd, rfl⟩⟩; refine ⟨_, rfl, ?_⟩))
     go_ret2
     exact ⟨by first | rfl | (simp; done) | (simp [*]; done), by repeat (first | exact Drawn0.refl _ | apply Drawn0.step)⟩
    replace c20 := Bool.eq_false_iff.mpr c20
    subst c20
    rw [if_neg qf] at H
    simp only [Option.some.injEq, Prod.mk.injEq] at H
    obtain ⟨rfl, rfl⟩ := H
    go_wp2_with (first | ((with_reducible refine gate_callee (f := 154) rfl ?_); refine goesL_ (some 44) rfl rfl Tryd.func154 (by kernel_rfl) rfl #[.int .i64 0, .int .i64 a1] rfl qm ?_; (with_reducible refine (malthouseref02_Sub.calls 0 a1 t107 false _ A18.out).mono ?_); rintro e w' ⟨rfl, ⟨nd, rfl⟩⟩; refine ⟨_, rfl, ?_⟩))
    go_ret2
    exact ⟨by first | rfl | (simp; done) | (simp [*]; done), by repeat (first | exact Drawn0.refl _ | apply Drawn0.step)⟩
   rw [if_neg c17] at H
   obtain ⟨c17b0, c17b1⟩ := qd c17
   by_cases c21 : a0 = 7
   ·rw [if_pos c21] at H
    obtain ⟨c21b0, c21b1⟩ := qe c21
    clear c21
    by_cases c22 : true = true
    ·clear c22
     have H1 : (some (wrap64 (Int.tdiv a1 a2), 0)) = some (r1, r2) := by first | (rw [if_pos rfl] at H; exact H) | (rw [if_pos trivial] at H; exact H)
     clear H
     have H := H1
     clear H1
     simp only [Option.some.injEq, Prod.mk.injEq] at H
     obtain ⟨rfl, rfl⟩ := H
     go_wp2
     go_ret2
     exact ⟨by first | rfl | (simp; done) | (simp [*]; done), by repeat (first | exact Drawn0.refl _ | apply Drawn0.step)⟩
    exact absurd rfl c22
   rw [if_neg c21] at H
   obtain ⟨c21b0, c21b1⟩ := qd c21
   by_cases c23 : true = true
   ·clear c23
    have H1 : (some (Int.tmod a1 a2, 0)) = some (r1, r2) := by first | (rw [if_pos rfl] at H; exact H) | (rw [if_pos trivial] at H; exact H)
    clear H
    have H := H1
    clear H1
    simp only [Option.some.injEq, Prod.mk.injEq] at H
    obtain ⟨rfl, rfl⟩ := H
    go_wp2
    go_ret2
    exact ⟨by first | rfl | (simp; done) | (simp [*]; done), by repeat (first | exact Drawn0.refl _ | apply Drawn0.step)⟩
   exact absurd rfl c23
  replace c15 := Bool.eq_false_iff.mpr c15
  subst c15
  rw [if_neg qf] at H
  by_cases c24 : a0 = 9
  ·rw [if_pos c24] at H
   obtain ⟨c24b0, c24b1⟩ := qe c24
   clear c24
   replace H := qi H
   obtain ⟨t109, A25, H⟩ := H
   by_cases c26 : true = true
   ·clear c26
    have H1 : (some (t109, 0)) = some (r1, r2) := by first | (rw [if_pos rfl] at H; exact H) | (rw [if_pos trivial] at H; exact H)
    clear H
    have H := H1
    clear H1
    simp only [Option.some.injEq, Prod.mk.injEq] at H
    obtain ⟨rfl, rfl⟩ := H
    go_wp2_with (first | ((with_reducible refine gate_callee (f := 137) rfl ?_); refine goesL_ (some 62) rfl rfl Tryd.func137 (by kernel_rfl) rfl #[.bool (decide (a1 < a2))] rfl qm ?_; (with_reducible refine (malthouseref02_truth.calls (decide (a1 < a2)) t109 _ A25.out).mono ?_); rintro e w' ⟨rfl, ⟨nd, rfl⟩⟩; refine ⟨_, rfl, ?_⟩))
    go_ret2
    exact ⟨by first | rfl | (simp; done) | (simp [*]; done), by repeat (first | exact Drawn0.refl _ | apply Drawn0.step)⟩
   exact absurd rfl c26
  rw [if_neg c24] at H
  obtain ⟨c24b0, c24b1⟩ := qd c24
  by_cases c27 : a0 = 10
  ·rw [if_pos c27] at H
   obtain ⟨c27b0, c27b1⟩ := qe c27
   clear c27
   replace H := qi H
   obtain ⟨t110, A28, H⟩ := H
   by_cases c29 : true = true
   ·clear c29
    have H1 : (some (t110, 0)) = some (r1, r2) := by first | (rw [if_pos rfl] at H; exact H) | (rw [if_pos trivial] at H; exact H)
    clear H
    have H := H1
    clear H1
    simp only [Option.some.injEq, Prod.mk.injEq] at H
    obtain ⟨rfl, rfl⟩ := H
    go_wp2_with (first | ((with_reducible refine gate_callee (f := 137) rfl ?_); refine goesL_ (some 68) rfl rfl Tryd.func137 (by kernel_rfl) rfl #[.bool (decide (a1 ≤ a2))] rfl qm ?_; (with_reducible refine (malthouseref02_truth.calls (decide (a1 ≤ a2)) t110 _ A28.out).mono ?_); rintro e w' ⟨rfl, ⟨nd, rfl⟩⟩; refine ⟨_, rfl, ?_⟩))
    go_ret2
    exact ⟨by first | rfl | (simp; done) | (simp [*]; done), by repeat (first | exact Drawn0.refl _ | apply Drawn0.step)⟩
   exact absurd rfl c29
  rw [if_neg c27] at H
  obtain ⟨c27b0, c27b1⟩ := qd c27
  by_cases c30 : a0 = 11
  ·rw [if_pos c30] at H
   obtain ⟨c30b0, c30b1⟩ := qe c30
   clear c30
   replace H := qi H
   obtain ⟨t111, A31, H⟩ := H
   by_cases c32 : true = true
   ·clear c32
    have H1 : (some (t111, 0)) = some (r1, r2) := by first | (rw [if_pos rfl] at H; exact H) | (rw [if_pos trivial] at H; exact H)
    clear H
    have H := H1
    clear H1
    simp only [Option.some.injEq, Prod.mk.injEq] at H
    obtain ⟨rfl, rfl⟩ := H
    go_wp2_with (first | ((with_reducible refine gate_callee (f := 137) rfl ?_); refine goesL_ (some 74) rfl rfl Tryd.func137 (by kernel_rfl) rfl #[.bool (decide (a1 > a2))] rfl qm ?_; (with_reducible refine (malthouseref02_truth.calls (decide (a1 > a2)) t111 _ A31.out).mono ?_); rintro e w' ⟨rfl, ⟨nd, rfl⟩⟩; refine ⟨_, rfl, ?_⟩))
    go_ret2
    exact ⟨by first | rfl | (simp; done) | (simp [*]; done), by repeat (first | exact Drawn0.refl _ | apply Drawn0.step)⟩
   exact absurd rfl c32
  rw [if_neg c30] at H
  obtain ⟨c30b0, c30b1⟩ := qd c30
  by_cases c33 : a0 = 12
  ·rw [if_pos c33] at H
   obtain ⟨c33b0, c33b1⟩ := qe c33
   clear c33
   replace H := qi H
   obtain ⟨t112, A34, H⟩ := H
   by_cases c35 : true = true
   ·clear c35
    have H1 : (some (t112, 0)) = some (r1, r2) := by first | (rw [if_pos rfl] at H; exact H) | (rw [if_pos trivial] at H; exact H)
    clear H
    have H := H1
    clear H1
    simp only [Option.some.injEq, Prod.mk.injEq] at H
    obtain ⟨rfl, rfl⟩ := H
    go_wp2_with (first | ((with_reducible refine gate_callee (f := 137) rfl ?_); refine goesL_ (some 80) rfl rfl Tryd.func137 (by kernel_rfl) rfl #[.bool (decide (a1 ≥ a2))] rfl qm ?_; (with_reducible refine (malthouseref02_truth.calls (decide (a1 ≥ a2)) t112 _ A34.out).mono ?_); rintro e w' ⟨rfl, ⟨nd, rfl⟩⟩; refine ⟨_, rfl, ?_⟩))
    go_ret2
    exact ⟨by first | rfl | (simp; done) | (simp [*]; done), by repeat (first | exact Drawn0.refl _ | apply Drawn0.step)⟩
   exact absurd rfl c35
  rw [if_neg c33] at H
  obtain ⟨c33b0, c33b1⟩ := qd c33
  by_cases c36 : a0 = 13
  ·rw [if_pos c36] at H
   obtain ⟨c36b0, c36b1⟩ := qe c36
   clear c36
   replace H := qi H
   obtain ⟨t113, A37, H⟩ := H
   by_cases c38 : true = true
   ·clear c38
    have H1 : (some (t113, 0)) = some (r1, r2) := by first | (rw [if_pos rfl] at H; exact H) | (rw [if_pos trivial] at H; exact H)
    clear H
    have H := H1
    clear H1
    simp only [Option.some.injEq, Prod.mk.injEq] at H
    obtain ⟨rfl, rfl⟩ := H
    go_wp2_with (first | ((with_reducible refine gate_callee (f := 137) rfl ?_); refine goesL_ (some 86) rfl rfl Tryd.func137 (by kernel_rfl) rfl #[.bool (a1 == a2)] rfl qm ?_; (with_reducible refine (malthouseref02_truth.calls (a1 == a2) t113 _ A37.out).mono ?_); rintro e w' ⟨rfl, ⟨nd, rfl⟩⟩; refine ⟨_, rfl, ?_⟩))
    go_ret2
    exact ⟨by first | rfl | (simp; done) | (simp [*]; done), by repeat (first | exact Drawn0.refl _ | apply Drawn0.step)⟩
   exact absurd rfl c38
  rw [if_neg c36] at H
  obtain ⟨c36b0, c36b1⟩ := qd c36
  by_cases c39 : a0 = 14
  ·rw [if_pos c39] at H
   obtain ⟨c39b0, c39b1⟩ := qe c39
   clear c39
   replace H := qi H
   obtain ⟨t114, A40, H⟩ := H
   by_cases c41 : true = true
   ·clear c41
    have H1 : (some (t114, 0)) = some (r1, r2) := by first | (rw [if_pos rfl] at H; exact H) | (rw [if_pos trivial] at H; exact H)
    clear H
    have H := H1
    clear H1
    simp only [Option.some.injEq, Prod.mk.injEq] at H
    obtain ⟨rfl, rfl⟩ := H
    go_wp2_with (first | ((with_reducible refine gate_callee (f := 137) rfl ?_); refine goesL_ (some 92) rfl rfl Tryd.func137 (by kernel_rfl) rfl #[.bool (a1 != a2)] rfl qm ?_; (with_reducible refine (malthouseref02_truth.calls (a1 != a2) t114 _ A40.out).mono ?_); rintro e w' ⟨rfl, ⟨nd, rfl⟩⟩; refine ⟨_, rfl, ?_⟩))
    go_ret2
    exact ⟨by first | rfl | (simp; done) | (simp [*]; done), by repeat (first | exact Drawn0.refl _ | apply Drawn0.step)⟩
   exact absurd rfl c41
  rw [if_neg c39] at H
  obtain ⟨c39b0, c39b1⟩ := qd c39
  by_cases c42 : a0 = 15
  ·rw [if_pos c42] at H
   obtain ⟨c42b0, c42b1⟩ := qe c42
   clear c42
   by_cases c43 : a1 = 0
   ·rw [if_pos c43] at H
    obtain ⟨c43b0, c43b1⟩ := qe c43
    clear c43
    replace H := qi H
    obtain ⟨t115, A44, H⟩ := H
    by_cases c45 : true = true
    ·clear c45
     have H1 : (some (t115, 0)) = some (r1, r2) := by first | (rw [if_pos rfl] at H; exact H) | (rw [if_pos trivial] at H; exact H)
     clear H
     have H := H1
     clear H1
     simp only [Option.some.injEq, Prod.mk.injEq] at H
     obtain ⟨rfl, rfl⟩ := H
     go_wp2_with (first | ((with_reducible refine gate_callee (f := 137) rfl ?_); refine goesL_ (some 101) rfl rfl Tryd.func137 (by kernel_rfl) rfl #[.bool false] rfl qm ?_; (with_reducible refine (malthouseref02_truth.calls false t115 _ A44.out).mono ?_); rintro e w' ⟨rfl, ⟨nd, rfl⟩⟩; refine ⟨_, rfl, ?_⟩))
     go_ret2
     exact ⟨by first | rfl | (simp; done) | (simp [*]; done), by repeat (first | exact Drawn0.refl _ | apply Drawn0.step)⟩
    exact absurd rfl c45
   rw [if_neg c43] at H
   obtain ⟨c43b0, c43b1⟩ := qd c43
   replace H := qi H
   obtain ⟨t116, A46, H⟩ := H
   by_cases c47 : true = true
   ·clear c47
    have H1 : (some (t116, 0)) = some (r1, r2) := by first | (rw [if_pos rfl] at H; exact H) | (rw [if_pos trivial] at H; exact H)
    clear H
    have H := H1
    clear H1
    simp only [Option.some.injEq, Prod.mk.injEq] at H
    obtain ⟨rfl, rfl⟩ := H
    go_wp2_with (first | ((with_reducible refine gate_callee (f := 137) rfl ?_); refine goesL_ (some 101) rfl rfl Tryd.func137 (by kernel_rfl) rfl #[.bool (a2 != 0)] rfl qm ?_; (with_reducible refine (malthouseref02_truth.calls (a2 != 0) t116 _ A46.out).mono ?_); rintro e w' ⟨rfl, ⟨nd, rfl⟩⟩; refine ⟨_, rfl, ?_⟩))
    go_ret2
    exact ⟨by first | rfl | (simp; done) | (simp [*]; done), by repeat (first | exact Drawn0.refl _ | apply Drawn0.step)⟩
   exact absurd rfl c47
  rw [if_neg c42] at H
  obtain ⟨c42b0, c42b1⟩ := qd c42
  by_cases c48 : a0 = 16
  ·rw [if_pos c48] at H
   obtain ⟨c48b0, c48b1⟩ := qe c48
   clear c48
   by_cases c49 : a1 = 0
   ·rw [if_pos c49] at H
    obtain ⟨c49b0, c49b1⟩ := qe c49
    clear c49
    replace H := qi H
    obtain ⟨t117, A50, H⟩ := H
    by_cases c51 : true = true
    ·clear c51
     have H1 : (some (t117, 0)) = some (r1, r2) := by first | (rw [if_pos rfl] at H; exact H) | (rw [if_pos trivial] at H; exact H)
     clear H
     have H := H1
     clear H1
     simp only [Option.some.injEq, Prod.mk.injEq] at H
     obtain ⟨rfl, rfl⟩ := H
     go_wp2_with (first | ((with_reducible refine gate_callee (f := 137) rfl ?_); refine goesL_ (some 110) rfl rfl Tryd.func137 (by kernel_rfl) rfl #[.bool (a2 != 0)] rfl qm ?_; (with_reducible refine (malthouseref02_truth.calls (a2 != 0) t117 _ A50.out).mono ?_); rintro e w' ⟨rfl, ⟨nd, rfl⟩⟩; refine ⟨_, rfl, ?_⟩))
     go_ret2
     exact ⟨by first | rfl | (simp; done) | (simp [*]; done), by repeat (first | exact Drawn0.refl _ | apply Drawn0.step)⟩
    exact absurd rfl c51
   rw [if_neg c49] at H
   obtain ⟨c49b0, c49b1⟩ := qd c49
   replace H := qi H
   obtain ⟨t118, A52, H⟩ := H
   by_cases c53 : true = true
   ·clear c53
    have H1 : (some (t118, 0)) = some (r1, r2) := by first | (rw [if_pos rfl] at H; exact H) | (rw [if_pos trivial] at H; exact H)
    clear H
    have H := H1
    clear H1
    simp only [Option.some.injEq, Prod.mk.injEq] at H
    obtain ⟨rfl, rfl⟩ := H
    go_wp2_with (first | ((with_reducible refine gate_callee (f := 137) rfl ?_); refine goesL_ (some 110) rfl rfl Tryd.func137 (by kernel_rfl) rfl #[.bool true] rfl qm ?_; (with_reducible refine (malthouseref02_truth.calls true t118 _ A52.out).mono ?_); rintro e w' ⟨rfl, ⟨nd, rfl⟩⟩; refine ⟨_, rfl, ?_⟩))
    go_ret2
    exact ⟨by first | rfl | (simp; done) | (simp [*]; done), by repeat (first | exact Drawn0.refl _ | apply Drawn0.step)⟩
   exact absurd rfl c53
  rw [if_neg c48] at H
  obtain ⟨c48b0, c48b1⟩ := qd c48
  by_cases c54 : true = true
  ·clear c54
   have H1 : (some (0, 0)) = some (r1, r2) := by first | (rw [if_pos rfl] at H; exact H) | (rw [if_pos trivial] at H; exact H)
   clear H
   have H := H1
   clear H1
   simp only [Option.some.injEq, Prod.mk.injEq] at H
   obtain ⟨rfl, rfl⟩ := H
   go_wp2
   go_ret2
   exact ⟨by first | rfl | (simp; done) | (simp [*]; done), by repeat (first | exact Drawn0.refl _ | apply Drawn0.step)⟩
  exact absurd rfl c54
end Go.Proofs.YtiaccdaeomaogaaDoor.F
