/- Texts of one claim, slimmed and merged by slim.py. -/
import Derived.Test.YtiaccdaeomaogaaDoorA4
import Derived.Test.YtiaccdaeomaogaaDoorA9
namespace Go.Proofs.YtiaccdaeomaogaaDoor.F
open Go.RowKit Go.Proofs.YtiaccdaeomaogaaDoorW.PrintWords Go.Proofs.YtiaccdaeomaogaaDoorW.PrintLast Go.Proofs.YtiaccdaeomaogaaDoorW.PrintMore
attribute [local go_sem] max2_int min2_int max_two min_two max_three min_three max_four min_four   -- for this text's walks alone
set_option linter.unusedVariables false
set_option linter.unusedSimpArgs false
def expr_two.j0 : Nat → Int → Int → Int → Int → Bool → Option (Int × Int)
  | 0, _, _, _, _, _ => none
  | k + 1, x0, x1, x2, x8, x30 => if x30 = true then ((expr_divide.f k x0 x1 x2).bind fun bt107 => (some (bt107.1, bt107.2))) else (if x8 = 9 then ((expr_truth.f (decide (x1 < x2))).bind fun t109 => (some (t109, 0))) else (if x8 = 10 then ((expr_truth.f (decide (x1 ≤ x2))).bind fun t110 => (some (t110, 0))) else (if x8 = 11 then ((expr_truth.f (decide (x1 > x2))).bind fun t111 => (some (t111, 0))) else (if x8 = 12 then ((expr_truth.f (decide (x1 ≥ x2))).bind fun t112 => (some (t112, 0))) else (if x8 = 13 then ((expr_truth.f (x1 == x2)).bind fun t113 => (some (t113, 0))) else (if x8 = 14 then ((expr_truth.f (x1 != x2)).bind fun t114 => (some (t114, 0))) else (if x8 = 15 then (if x1 = 0 then ((expr_truth.f false).bind fun t115 => (some (t115, 0))) else ((expr_truth.f (x2 != 0)).bind fun t116 => (some (t116, 0)))) else (if x1 = 0 then ((expr_truth.f (x2 != 0)).bind fun t117 => (some (t117, 0))) else ((expr_truth.f true).bind fun t118 => (some (t118, 0)))))))))))
def expr_two.f (k : Nat) (a0 : Int) (a1 : Int) (a2 : Int) : Option (Int × Int) := if a0 = 4 then ((expr_plus.f a1 a2).bind fun bt101 => (some (bt101.1, bt101.2))) else (if a0 = 5 then ((expr_minus.f a1 a2).bind fun bt103 => (some (bt103.1, bt103.2))) else (if a0 = 6 then ((expr_times.f a1 a2).bind fun bt105 => (some (bt105.1, bt105.2))) else (if a0 = 7 then (expr_two.j0 k a0 a1 a2 a0 (a0 == 7)) else (expr_two.j0 k a0 a1 a2 a0 (a0 == 8)))))
theorem expr_two.mono_l : ∀ k, (∀ y0 y1 y2 y3 y4, LeO (expr_two.j0 k y0 y1 y2 y3 y4) (expr_two.j0 (k + 1) y0 y1 y2 y3 y4))
  | 0 => fun _ _ _ _ _ r h => by simp [expr_two.j0] at h
  | k + 1 => by
    have ih0 := expr_two.mono_l k
    intro y0 y1 y2 y3 y4
    unfold expr_two.j0
    repeat' first
    | (with_reducible exact ih0 _ _ _ _ _)
    | (with_reducible exact expr_divide.mono _ _ _ _)
    | (with_reducible exact LeO.refl _)
    | (with_reducible exact LeO.none _)
    | (with_reducible refine LeO.ite ?_ ?_)
    | (with_reducible refine LeO.bind ?_ (fun _ => ?_))
    | exact ih0 _ _ _ _ _
    | exact expr_divide.mono _ _ _ _
    | exact LeO.none _
    | refine LeO.ite ?_ ?_
    | refine LeO.bind ?_ (fun _ => ?_)
theorem expr_two.mono : ∀ a0 a1 a2 k, LeO (expr_two.f k a0 a1 a2) (expr_two.f (k + 1) a0 a1 a2) := by
  intro a0 a1 a2 k
  have ih0 := expr_two.mono_l k
  unfold expr_two.f
  repeat' first
      | (with_reducible exact ih0 _ _ _ _ _)
      | (with_reducible exact expr_divide.mono _ _ _ _)
      | (with_reducible exact LeO.refl _)
      | (with_reducible exact LeO.none _)
      | (with_reducible refine LeO.ite ?_ ?_)
      | (with_reducible refine LeO.bind ?_ (fun _ => ?_))
      | exact ih0 _ _ _ _ _
      | exact expr_divide.mono _ _ _ _
      | exact LeO.none _
      | refine LeO.ite ?_ ?_
      | refine LeO.bind ?_ (fun _ => ?_)
set_option maxHeartbeats 8000000 in
set_option maxRecDepth 100000 in
theorem expr_two.calls (k : Nat) (a0 : Int) (a1 : Int) (a2 : Int) (r1 : Int) (r2 : Int) (w : World) (h : expr_two.f k a0 a1 a2 = some (r1, r2)) :
  Calls Tryd.prog 100 #[.int .i64 a0, .int .i64 a1, .int .i64 a2] w fun e w' => e = .returned (.tuple #[.int .i64 r1, .int .i64 r2]) ∧ Drawn0 w w' := by
 have H : (if a0 = 4 then ((expr_plus.f a1 a2).bind fun bt101 => (some (bt101.1, bt101.2))) else (if a0 = 5 then ((expr_minus.f a1 a2).bind fun bt103 => (some (bt103.1, bt103.2))) else (if a0 = 6 then ((expr_times.f a1 a2).bind fun bt105 => (some (bt105.1, bt105.2))) else (if a0 = 7 then (expr_two.j0 k a0 a1 a2 a0 (a0 == 7)) else (expr_two.j0 k a0 a1 a2 a0 (a0 == 8)))))) = some (r1, r2) := h
 clear h
 by_cases c4 : a0 = 4
 ·rw [if_pos c4] at H
  obtain ⟨c4b0, c4b1⟩ := qe c4
  clear c4
  replace H := qi H
  obtain ⟨⟨t101, t102⟩, A5, H⟩ := H
  replace H : (some (t101, t102)) = some (r1, r2) := H
  simp only [Option.some.injEq, Prod.mk.injEq] at H
  obtain ⟨rfl, rfl⟩ := H
  go_enter Tryd.func100, Tryd.ntmps100
  go_wp2_with (first | ((with_reducible refine gate_callee (f := 132) rfl ?_); refine goesL_ (some 13) rfl rfl Tryd.func132 (by kernel_rfl) rfl #[.int .i64 a1, .int .i64 a2] rfl qm ?_; (with_reducible refine (expr_plus.calls a1 a2 t101 t102 _ A5.out).mono ?_); rintro e w' ⟨rfl, ⟨nd, rfl⟩⟩; refine ⟨_, rfl, ?_⟩))
  go_ret2
  exact ⟨by first | rfl | (simp; done) | (simp [*]; done), by repeat (first | exact Drawn0.refl _ | apply Drawn0.step)⟩
 rw [if_neg c4] at H
 obtain ⟨c4b0, c4b1⟩ := qd c4
 by_cases c6 : a0 = 5
 ·rw [if_pos c6] at H
  obtain ⟨c6b0, c6b1⟩ := qe c6
  clear c6
  replace H := qi H
  obtain ⟨⟨t103, t104⟩, A7, H⟩ := H
  replace H : (some (t103, t104)) = some (r1, r2) := H
  simp only [Option.some.injEq, Prod.mk.injEq] at H
  obtain ⟨rfl, rfl⟩ := H
  go_enter Tryd.func100, Tryd.ntmps100
  go_wp2_with (first | ((with_reducible refine gate_callee (f := 98) rfl ?_); refine goesL_ (some 20) rfl rfl Tryd.func98 (by kernel_rfl) rfl #[.int .i64 a1, .int .i64 a2] rfl qm ?_; (with_reducible refine (expr_minus.calls a1 a2 t103 t104 _ A7.out).mono ?_); rintro e w' ⟨rfl, ⟨nd, rfl⟩⟩; refine ⟨_, rfl, ?_⟩))
  go_ret2
  exact ⟨by first | rfl | (simp; done) | (simp [*]; done), by repeat (first | exact Drawn0.refl _ | apply Drawn0.step)⟩
 rw [if_neg c6] at H
 obtain ⟨c6b0, c6b1⟩ := qd c6
 by_cases c8 : a0 = 6
 ·rw [if_pos c8] at H
  obtain ⟨c8b0, c8b1⟩ := qe c8
  clear c8
  replace H := qi H
  obtain ⟨⟨t105, t106⟩, A9, H⟩ := H
  replace H : (some (t105, t106)) = some (r1, r2) := H
  simp only [Option.some.injEq, Prod.mk.injEq] at H
  obtain ⟨rfl, rfl⟩ := H
  go_enter Tryd.func100, Tryd.ntmps100
  go_wp2_with (first | ((with_reducible refine gate_callee (f := 133) rfl ?_); refine goesL_ (some 27) rfl rfl Tryd.func133 (by kernel_rfl) rfl #[.int .i64 a1, .int .i64 a2] rfl qm ?_; (with_reducible refine (expr_times.calls a1 a2 t105 t106 _ A9.out).mono ?_); rintro e w' ⟨rfl, ⟨nd, rfl⟩⟩; refine ⟨_, rfl, ?_⟩))
  go_ret2
  exact ⟨by first | rfl | (simp; done) | (simp [*]; done), by repeat (first | exact Drawn0.refl _ | apply Drawn0.step)⟩
 rw [if_neg c8] at H
 obtain ⟨c8b0, c8b1⟩ := qd c8
 have HC10 := Aside0.mk H
 clear H
 go_enter Tryd.func100, Tryd.ntmps100
 go_upto_if 30 with (fail)
 go_cut [30] (fun v30 wc => ∃ (kq : Nat) (x30_9 : Bool), v30 = .bool x30_9 ∧ Aside0 (expr_two.j0 kq a0 a1 a2 a0 x30_9 = some (r1, r2)) ∧ Aside0 (kq ≤ k) ∧ Drawn0 w wc)
 case first =>
  have H := HC10.out
  clear HC10
  by_cases c11 : a0 = 7
  ·rw [if_pos c11] at H
   obtain ⟨c11b0, c11b1⟩ := qe c11
   clear c11
   (first | rw [c11b0] | (simp only [i64_w, i32_w]; rw [c11b0]) | skip)
   have H' := Aside0.mk H
   clear H
   go_wp2
   go_meet
   case rel => exact ⟨_, ((a0 == 7)), qv, H', ql, by repeat (first | exact Drawn0.refl _ | apply Drawn0.step)⟩
  rw [if_neg c11] at H
  obtain ⟨c11b0, c11b1⟩ := qd c11
  (first | rw [c11b0] | (simp only [i64_w, i32_w]; rw [c11b0]) | skip)
  have H' := Aside0.mk H
  clear H
  go_wp2
  go_meet
  case rel => exact ⟨_, ((a0 == 8)), qv, H', ql, by repeat (first | exact Drawn0.refl _ | apply Drawn0.step)⟩
 clear HC10
 obtain ⟨kq, x30_9, rfl, HA, HJ9, ⟨mc9, rfl⟩⟩ := hcut
 cases kq with
 | zero => exact absurd HA.out (by simp [expr_two.j0])
 | succ kj9 =>
  have H := HA.out
  clear HA
  simp only [expr_two.j0] at H
  by_cases c12 : x30_9 = true
  ·subst c12
   rw [if_pos rfl] at H
   replace H := qi H
   obtain ⟨⟨t107, t108⟩, A13, H⟩ := H
   replace H : (some (t107, t108)) = some (r1, r2) := H
   simp only [Option.some.injEq, Prod.mk.injEq] at H
   obtain ⟨rfl, rfl⟩ := H
   go_wp2_with (first | ((with_reducible refine gate_callee (f := 134) rfl ?_); refine goesL_ (some 36) rfl rfl Tryd.func134 (by kernel_rfl) rfl #[.int .i64 a0, .int .i64 a1, .int .i64 a2] rfl qm ?_; (with_reducible refine (expr_divide.calls kj9 a0 a1 a2 t107 t108 _ A13.out).mono ?_); rintro e w' ⟨rfl, ⟨nd, rfl⟩⟩; refine ⟨_, rfl, ?_⟩))
   go_ret2
   exact ⟨by first | rfl | (simp; done) | (simp [*]; done), by repeat (first | exact Drawn0.refl _ | apply Drawn0.step)⟩
  replace c12 := Bool.eq_false_iff.mpr c12
  subst c12
  rw [if_neg qf] at H
  by_cases c14 : a0 = 9
  ·rw [if_pos c14] at H
   obtain ⟨c14b0, c14b1⟩ := qe c14
   clear c14
   replace H := qi H
   obtain ⟨t109, A15, H⟩ := H
   simp only [Option.some.injEq, Prod.mk.injEq] at H
   obtain ⟨rfl, rfl⟩ := H
   go_wp2_with (first | ((with_reducible refine gate_callee (f := 99) rfl ?_); refine goesL_ (some 44) rfl rfl Tryd.func99 (by kernel_rfl) rfl #[.bool (decide (a1 < a2))] rfl qm ?_; (with_reducible refine (expr_truth.calls (decide (a1 < a2)) t109 _ A15.out).mono ?_); rintro e w' ⟨rfl, ⟨nd, rfl⟩⟩; refine ⟨_, rfl, ?_⟩))
   go_ret2
   exact ⟨by first | rfl | (simp; done) | (simp [*]; done), by repeat (first | exact Drawn0.refl _ | apply Drawn0.step)⟩
  rw [if_neg c14] at H
  obtain ⟨c14b0, c14b1⟩ := qd c14
  by_cases c16 : a0 = 10
  ·rw [if_pos c16] at H
   obtain ⟨c16b0, c16b1⟩ := qe c16
   clear c16
   replace H := qi H
   obtain ⟨t110, A17, H⟩ := H
   simp only [Option.some.injEq, Prod.mk.injEq] at H
   obtain ⟨rfl, rfl⟩ := H
   go_wp2_with (first | ((with_reducible refine gate_callee (f := 99) rfl ?_); refine goesL_ (some 50) rfl rfl Tryd.func99 (by kernel_rfl) rfl #[.bool (decide (a1 ≤ a2))] rfl qm ?_; (with_reducible refine (expr_truth.calls (decide (a1 ≤ a2)) t110 _ A17.out).mono ?_); rintro e w' ⟨rfl, ⟨nd, rfl⟩⟩; refine ⟨_, rfl, ?_⟩))
   go_ret2
   exact ⟨by first | rfl | (simp; done) | (simp [*]; done), by repeat (first | exact Drawn0.refl _ | apply Drawn0.step)⟩
  rw [if_neg c16] at H
  obtain ⟨c16b0, c16b1⟩ := qd c16
  by_cases c18 : a0 = 11
  ·rw [if_pos c18] at H
   obtain ⟨c18b0, c18b1⟩ := qe c18
   clear c18
   replace H := qi H
   obtain ⟨t111, A19, H⟩ := H
   simp only [Option.some.injEq, Prod.mk.injEq] at H
   obtain ⟨rfl, rfl⟩ := H
   go_wp2_with (first | ((with_reducible refine gate_callee (f := 99) rfl ?_); refine goesL_ (some 56) rfl rfl Tryd.func99 (by kernel_rfl) rfl #[.bool (decide (a1 > a2))] rfl qm ?_; (with_reducible refine (expr_truth.calls (decide (a1 > a2)) t111 _ A19.out).mono ?_); rintro e w' ⟨rfl, ⟨nd, rfl⟩⟩; refine ⟨_, rfl, ?_⟩))
   go_ret2
   exact ⟨by first | rfl | (simp; done) | (simp [*]; done), by repeat (first | exact Drawn0.refl _ | apply Drawn0.step)⟩
  rw [if_neg c18] at H
  obtain ⟨c18b0, c18b1⟩ := qd c18
  by_cases c20 : a0 = 12
  ·rw [if_pos c20] at H
   obtain ⟨c20b0, c20b1⟩ := qe c20
   clear c20
   replace H := qi H
   obtain ⟨t112, A21, H⟩ := H
   simp only [Option.some.injEq, Prod.mk.injEq] at H
   obtain ⟨rfl, rfl⟩ := H
   go_wp2_with (first | ((with_reducible refine gate_callee (f := 99) rfl ?_); refine goesL_ (some 62) rfl rfl Tryd.func99 (by kernel_rfl) rfl #[.bool (decide (a1 ≥ a2))] rfl qm ?_; (with_reducible refine (expr_truth.calls (decide (a1 ≥ a2)) t112 _ A21.out).mono ?_); rintro e w' ⟨rfl, ⟨nd, rfl⟩⟩; refine ⟨_, rfl, ?_⟩))
   go_ret2
   exact ⟨by first | rfl | (simp; done) | (simp [*]; done), by repeat (first | exact Drawn0.refl _ | apply Drawn0.step)⟩
  rw [if_neg c20] at H
  obtain ⟨c20b0, c20b1⟩ := qd c20
  by_cases c22 : a0 = 13
  ·rw [if_pos c22] at H
   obtain ⟨c22b0, c22b1⟩ := qe c22
   clear c22
   replace H := qi H
   obtain ⟨t113, A23, H⟩ := H
   simp only [Option.some.injEq, Prod.mk.injEq] at H
   obtain ⟨rfl, rfl⟩ := H
   go_wp2_with (first | ((with_reducible refine gate_callee (f := 99) rfl ?_); refine goesL_ (some 68) rfl rfl Tryd.func99 (by kernel_rfl) rfl #[.bool (a1 == a2)] rfl qm ?_; (with_reducible refine (expr_truth.calls (a1 == a2) t113 _ A23.out).mono ?_); rintro e w' ⟨rfl, ⟨nd, rfl⟩⟩; refine ⟨_, rfl, ?_⟩))
   go_ret2
   exact ⟨by first | rfl | (simp; done) | (simp [*]; done), by repeat (first | exact Drawn0.refl _ | apply Drawn0.step)⟩
  rw [if_neg c22] at H
  obtain ⟨c22b0, c22b1⟩ := qd c22
  by_cases c24 : a0 = 14
  ·rw [if_pos c24] at H
   obtain ⟨c24b0, c24b1⟩ := qe c24
   clear c24
   replace H := qi H
   obtain ⟨t114, A25, H⟩ := H
   simp only [Option.some.injEq, Prod.mk.injEq] at H
   obtain ⟨rfl, rfl⟩ := H
   go_wp2_with (first | ((with_reducible refine gate_callee (f := 99) rfl ?_); refine goesL_ (some 74) rfl rfl Tryd.func99 (by kernel_rfl) rfl #[.bool (a1 != a2)] rfl qm ?_; (with_reducible refine (expr_truth.calls (a1 != a2) t114 _ A25.out).mono ?_); rintro e w' ⟨rfl, ⟨nd, rfl⟩⟩; refine ⟨_, rfl, ?_⟩))
   go_ret2
   exact ⟨by first | rfl | (simp; done) | (simp [*]; done), by repeat (first | exact Drawn0.refl _ | apply Drawn0.step)⟩
  rw [if_neg c24] at H
  obtain ⟨c24b0, c24b1⟩ := qd c24
  by_cases c26 : a0 = 15
  ·rw [if_pos c26] at H
   obtain ⟨c26b0, c26b1⟩ := qe c26
   clear c26
   by_cases c27 : a1 = 0
   ·rw [if_pos c27] at H
    obtain ⟨c27b0, c27b1⟩ := qe c27
    clear c27
    replace H := qi H
    obtain ⟨t115, A28, H⟩ := H
    simp only [Option.some.injEq, Prod.mk.injEq] at H
    obtain ⟨rfl, rfl⟩ := H
    go_wp2_with (first | ((with_reducible refine gate_callee (f := 99) rfl ?_); refine goesL_ (some 83) rfl rfl Tryd.func99 (by kernel_rfl) rfl #[.bool false] rfl qm ?_; (with_reducible refine (expr_truth.calls false t115 _ A28.out).mono ?_); rintro e w' ⟨rfl, ⟨nd, rfl⟩⟩; refine ⟨_, rfl, ?_⟩))
    go_ret2
    exact ⟨by first | rfl | (simp; done) | (simp [*]; done), by repeat (first | exact Drawn0.refl _ | apply Drawn0.step)⟩
   rw [if_neg c27] at H
   obtain ⟨c27b0, c27b1⟩ := qd c27
   replace H := qi H
   obtain ⟨t116, A29, H⟩ := H
   simp only [Option.some.injEq, Prod.mk.injEq] at H
   obtain ⟨rfl, rfl⟩ := H
   go_wp2_with (first | ((with_reducible refine gate_callee (f := 99) rfl ?_); refine goesL_ (some 83) rfl rfl Tryd.func99 (by kernel_rfl) rfl #[.bool (a2 != 0)] rfl qm ?_; (with_reducible refine (expr_truth.calls (a2 != 0) t116 _ A29.out).mono ?_); rintro e w' ⟨rfl, ⟨nd, rfl⟩⟩; refine ⟨_, rfl, ?_⟩))
   go_ret2
   exact ⟨by first | rfl | (simp; done) | (simp [*]; done), by repeat (first | exact Drawn0.refl _ | apply Drawn0.step)⟩
  rw [if_neg c26] at H
  obtain ⟨c26b0, c26b1⟩ := qd c26
  by_cases c30 : a1 = 0
  ·rw [if_pos c30] at H
   obtain ⟨c30b0, c30b1⟩ := qe c30
   clear c30
   replace H := qi H
   obtain ⟨t117, A31, H⟩ := H
   simp only [Option.some.injEq, Prod.mk.injEq] at H
   obtain ⟨rfl, rfl⟩ := H
   go_wp2_with (first | ((with_reducible refine gate_callee (f := 99) rfl ?_); refine goesL_ (some 90) rfl rfl Tryd.func99 (by kernel_rfl) rfl #[.bool (a2 != 0)] rfl qm ?_; (with_reducible refine (expr_truth.calls (a2 != 0) t117 _ A31.out).mono ?_); rintro e w' ⟨rfl, ⟨nd, rfl⟩⟩; refine ⟨_, rfl, ?_⟩))
   go_ret2
   exact ⟨by first | rfl | (simp; done) | (simp [*]; done), by repeat (first | exact Drawn0.refl _ | apply Drawn0.step)⟩
  rw [if_neg c30] at H
  obtain ⟨c30b0, c30b1⟩ := qd c30
  replace H := qi H
  obtain ⟨t118, A32, H⟩ := H
  simp only [Option.some.injEq, Prod.mk.injEq] at H
  obtain ⟨rfl, rfl⟩ := H
  go_wp2_with (first | ((with_reducible refine gate_callee (f := 99) rfl ?_); refine goesL_ (some 90) rfl rfl Tryd.func99 (by kernel_rfl) rfl #[.bool true] rfl qm ?_; (with_reducible refine (expr_truth.calls true t118 _ A32.out).mono ?_); rintro e w' ⟨rfl, ⟨nd, rfl⟩⟩; refine ⟨_, rfl, ?_⟩))
  go_ret2
  exact ⟨by first | rfl | (simp; done) | (simp [*]; done), by repeat (first | exact Drawn0.refl _ | apply Drawn0.step)⟩
end Go.Proofs.YtiaccdaeomaogaaDoor.F
