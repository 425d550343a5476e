/- Texts of one claim, slimmed and merged by slim.py. -/
import Derived.Test.YtiaccdaeomaogaaDoorT4
import Derived.Test.YtiaccdaeomaogaaDoorT23
namespace Go.Proofs.YtiaccdaeomaogaaDoor.F
open Go.RowKit Go.Proofs.YtiaccdaeomaogaaDoorW.PrintWords Go.Proofs.YtiaccdaeomaogaaDoorW.PrintLast Go.Proofs.YtiaccdaeomaogaaDoorW.PrintMore
attribute [local go_sem] max2_int min2_int max_two min_two max_three min_three max_four min_four   -- for this text's walks alone
set_option linter.unusedVariables false
set_option linter.unusedSimpArgs false
mutual
def malthouseref01_Class.j0 : Nat → Int → Bool → Option (Int)
  | 0, _, _ => none
  | k + 1, x0, x5 => if x5 = true then (some 1) else (if x0 ≥ 97 then (if x0 ≤ 122 then (malthouseref01_Class.j1 k x0 true) else (if x0 ≥ 65 then (if x0 ≤ 90 then (malthouseref01_Class.j1 k x0 true) else (malthouseref01_Class.j1 k x0 (x0 == 95))) else (malthouseref01_Class.j1 k x0 (x0 == 95)))) else (if x0 ≥ 65 then (if x0 ≤ 90 then (malthouseref01_Class.j1 k x0 true) else (malthouseref01_Class.j1 k x0 (x0 == 95))) else (malthouseref01_Class.j1 k x0 (x0 == 95))))
def malthouseref01_Class.j1 : Nat → Int → Bool → Option (Int)
  | 0, _, _ => none
  | k + 1, x0, x20 => if x20 = true then (some 2) else (if x0 ≥ 192 then (if x0 ≤ 591 then (if x0 = 215 then (malthouseref01_Class.j2 k x0 false) else (malthouseref01_Class.j2 k x0 (x0 != 247))) else (malthouseref01_Class.j2 k x0 false)) else (malthouseref01_Class.j2 k x0 false))
def malthouseref01_Class.j2 : Nat → Int → Bool → Option (Int)
  | 0, _, _ => none
  | k + 1, x0, x39 => if x39 = true then (some 2) else (if x0 ≥ 48 then (malthouseref01_Class.j3 k x0 (decide (x0 ≤ 57))) else (malthouseref01_Class.j3 k x0 false))
def malthouseref01_Class.j3 : Nat → Int → Bool → Option (Int)
  | 0, _, _ => none
  | k + 1, x0, x54 => if x54 = true then (some 3) else (if x0 = 34 then (some 5) else (if x0 = 35 then (some 6) else (malthouseref01_Class.l0 k x0 (⟨#[40, 41, 123, 125, 44, 59, 58, 61, 43, 45, 42, 47, 37, 60, 62, 33, 38, 124]⟩ : ByteArray) 0)))
def malthouseref01_Class.l0 : Nat → Int → ByteArray → Int → Option (Int)
  | 0, _, _, _ => none
  | k + 1, x0, x3, x4 => if x4 < (x3.size : Int) then (if 0 ≤ x4 then (if (wrap64 (bt x3 x4)) = x0 then (some 4) else (malthouseref01_Class.l0 k x0 x3 (wrap64 (x4 + 1)))) else (none)) else (some 0)
end
def malthouseref01_Class.f (k : Nat) (a0 : Int) : Option (Int) := if a0 = 32 then (malthouseref01_Class.j0 k a0 true) else (if a0 = 9 then (malthouseref01_Class.j0 k a0 true) else (if a0 = 13 then (malthouseref01_Class.j0 k a0 true) else (malthouseref01_Class.j0 k a0 (a0 == 10))))
set_option maxHeartbeats 8000000 in
set_option maxRecDepth 100000 in
theorem malthouseref01_Class.calls (k : Nat) (a0 : Int) (r : Int) (w : World) (h : malthouseref01_Class.f k a0 = some r) :
    Calls Tryd.prog 125 #[.int .i64 a0] w fun e w' => e = .returned (.int .i64 r) ∧ Drawn0 w w' := by
  have H : (if a0 = 32 then (malthouseref01_Class.j0 k a0 true) else (if a0 = 9 then (malthouseref01_Class.j0 k a0 true) else (if a0 = 13 then (malthouseref01_Class.j0 k a0 true) else (malthouseref01_Class.j0 k a0 (a0 == 10))))) = some r := h
  clear h
  have HC2 := Aside0.mk H
  clear H
  go_enter Tryd.func125, Tryd.ntmps125
  go_upto_region 1 with (fail)
  go_cut [5] (fun v5 wc => ∃ (kq : Nat) (x5_1 : Bool), v5 = .bool x5_1 ∧ Aside0 (malthouseref01_Class.j0 kq a0 x5_1 = some r) ∧ Aside0 (kq ≤ k) ∧ Drawn0 w wc)
  case first =>
    have H := HC2.out
    clear HC2
    by_cases c3 : a0 = 32
    · rw [if_pos c3] at H
      obtain ⟨c3b0, c3b1⟩ := qe c3
      clear c3
      (first | rw [c3b0] | (simp only [i64_w, i32_w]; rw [c3b0]) | skip)
      have H' := Aside0.mk H
      clear H
      go_wp2
      go_meet
      case rel => exact ⟨_, (true), qv, H', ql, by repeat (first | exact Drawn0.refl _ | apply Drawn0.step)⟩
    rw [if_neg c3] at H
    obtain ⟨c3b0, c3b1⟩ := qd c3
    (first | rw [c3b0] | (simp only [i64_w, i32_w]; rw [c3b0]) | skip)
    by_cases c4 : a0 = 9
    · rw [if_pos c4] at H
      obtain ⟨c4b0, c4b1⟩ := qe c4
      clear c4
      have H' := Aside0.mk H
      clear H
      go_wp2
      go_meet
      case rel => exact ⟨_, (true), qv, H', ql, by repeat (first | exact Drawn0.refl _ | apply Drawn0.step)⟩
    rw [if_neg c4] at H
    obtain ⟨c4b0, c4b1⟩ := qd c4
    by_cases c5 : a0 = 13
    · rw [if_pos c5] at H
      obtain ⟨c5b0, c5b1⟩ := qe c5
      clear c5
      have H' := Aside0.mk H
      clear H
      go_wp2
      go_meet
      case rel => exact ⟨_, (true), qv, H', ql, by repeat (first | exact Drawn0.refl _ | apply Drawn0.step)⟩
    rw [if_neg c5] at H
    obtain ⟨c5b0, c5b1⟩ := qd c5
    have H' := Aside0.mk H
    clear H
    go_wp2
    go_meet
    case rel => exact ⟨_, ((a0 == 10)), qv, H', ql, by repeat (first | exact Drawn0.refl _ | apply Drawn0.step)⟩
  clear HC2
  obtain ⟨kq, x5_1, rfl, HA, HJ1, ⟨mc1, rfl⟩⟩ := hcut
  cases kq with
  | zero => exact absurd HA.out (by simp [malthouseref01_Class.j0])
  | succ kj1 =>
    have H := HA.out
    clear HA
    simp only [malthouseref01_Class.j0] at H
    by_cases c6 : x5_1 = true
    · subst c6
      rw [if_pos rfl] at H
      obtain rfl := Option.some.inj H
      go_wp2
      go_ret
      exact ⟨by first | rfl | (simp; done) | (simp [*]; done), by repeat (first | exact Drawn0.refl _ | apply Drawn0.step)⟩
    replace c6 := Bool.eq_false_iff.mpr c6
    subst c6
    rw [if_neg qf] at H
    have HC7 := Aside0.mk H
    clear H
    go_upto_region 3 with (fail)
    go_cut [20] (fun v20 wc => ∃ (kq : Nat) (x20_6 : Bool), v20 = .bool x20_6 ∧ Aside0 (malthouseref01_Class.j1 kq a0 x20_6 = some r) ∧ Aside0 (kq ≤ kj1) ∧ Drawn0 w wc)
    case first =>
      have H := HC7.out
      clear HC7
      by_cases c8 : a0 ≥ 97
      · rw [if_pos c8] at H
        have c8b0 : decide (97 ≤ a0) = true := decide_eq_true c8
        clear c8
        (first | rw [c8b0] | (simp only [i64_w, i32_w]; rw [c8b0]) | skip)
        by_cases c9 : a0 ≤ 122
        · rw [if_pos c9] at H
          have c9b0 : decide (a0 ≤ 122) = true := decide_eq_true c9
          clear c9
          have H' := Aside0.mk H
          clear H
          go_wp2
          go_meet
          case rel => exact ⟨_, (true), qv, H', ⟨by have := HJ1.out; first | omega | exact Nat.le_refl _⟩, by repeat (first | exact Drawn0.refl _ | apply Drawn0.step)⟩
        rw [if_neg c9] at H
        have c9b0 : decide (a0 ≤ 122) = false := decide_eq_false c9
        clear c9
        by_cases c10 : a0 ≥ 65
        · rw [if_pos c10] at H
          have c10b0 : decide (65 ≤ a0) = true := decide_eq_true c10
          clear c10
          by_cases c11 : a0 ≤ 90
          · rw [if_pos c11] at H
            have c11b0 : decide (a0 ≤ 90) = true := decide_eq_true c11
            clear c11
            have H' := Aside0.mk H
            clear H
            go_wp2
            go_meet
            case rel => exact ⟨_, (true), qv, H', ⟨by have := HJ1.out; first | omega | exact Nat.le_refl _⟩, by repeat (first | exact Drawn0.refl _ | apply Drawn0.step)⟩
          rw [if_neg c11] at H
          have c11b0 : decide (a0 ≤ 90) = false := decide_eq_false c11
          clear c11
          have H' := Aside0.mk H
          clear H
          go_wp2
          go_meet
          case rel => exact ⟨_, ((a0 == 95)), qv, H', ⟨by have := HJ1.out; first | omega | exact Nat.le_refl _⟩, by repeat (first | exact Drawn0.refl _ | apply Drawn0.step)⟩
        rw [if_neg c10] at H
        have c10b0 : decide (65 ≤ a0) = false := decide_eq_false c10
        clear c10
        have H' := Aside0.mk H
        clear H
        go_wp2
        go_meet
        case rel => exact ⟨_, ((a0 == 95)), qv, H', ⟨by have := HJ1.out; first | omega | exact Nat.le_refl _⟩, by repeat (first | exact Drawn0.refl _ | apply Drawn0.step)⟩
      rw [if_neg c8] at H
      have c8b0 : decide (97 ≤ a0) = false := decide_eq_false c8
      clear c8
      (first | rw [c8b0] | (simp only [i64_w, i32_w]; rw [c8b0]) | skip)
      by_cases c12 : a0 ≥ 65
      · rw [if_pos c12] at H
        have c12b0 : decide (65 ≤ a0) = true := decide_eq_true c12
        clear c12
        by_cases c13 : a0 ≤ 90
        · rw [if_pos c13] at H
          have c13b0 : decide (a0 ≤ 90) = true := decide_eq_true c13
          clear c13
          have H' := Aside0.mk H
          clear H
          go_wp2
          go_meet
          case rel => exact ⟨_, (true), qv, H', ⟨by have := HJ1.out; first | omega | exact Nat.le_refl _⟩, by repeat (first | exact Drawn0.refl _ | apply Drawn0.step)⟩
        rw [if_neg c13] at H
        have c13b0 : decide (a0 ≤ 90) = false := decide_eq_false c13
        clear c13
        have H' := Aside0.mk H
        clear H
        go_wp2
        go_meet
        case rel => exact ⟨_, ((a0 == 95)), qv, H', ⟨by have := HJ1.out; first | omega | exact Nat.le_refl _⟩, by repeat (first | exact Drawn0.refl _ | apply Drawn0.step)⟩
      rw [if_neg c12] at H
      have c12b0 : decide (65 ≤ a0) = false := decide_eq_false c12
      clear c12
      have H' := Aside0.mk H
      clear H
      go_wp2
      go_meet
      case rel => exact ⟨_, ((a0 == 95)), qv, H', ⟨by have := HJ1.out; first | omega | exact Nat.le_refl _⟩, by repeat (first | exact Drawn0.refl _ | apply Drawn0.step)⟩
    clear HC7
    obtain ⟨kq, x20_6, rfl, HA, HJ6, ⟨mc6, rfl⟩⟩ := hcut
    cases kq with
    | zero => exact absurd HA.out (by simp [malthouseref01_Class.j1])
    | succ kj6 =>
      have H := HA.out
      clear HA
      simp only [malthouseref01_Class.j1] at H
      by_cases c14 : x20_6 = true
      · subst c14
        rw [if_pos rfl] at H
        obtain rfl := Option.some.inj H
        go_wp2
        go_ret
        exact ⟨by first | rfl | (simp; done) | (simp [*]; done), by repeat (first | exact Drawn0.refl _ | apply Drawn0.step)⟩
      replace c14 := Bool.eq_false_iff.mpr c14
      subst c14
      rw [if_neg qf] at H
      have HC15 := Aside0.mk H
      clear H
      go_upto_region 5 with (fail)
      go_cut [39] (fun v39 wc => ∃ (kq : Nat) (x39_14 : Bool), v39 = .bool x39_14 ∧ Aside0 (malthouseref01_Class.j2 kq a0 x39_14 = some r) ∧ Aside0 (kq ≤ kj6) ∧ Drawn0 w wc)
      case first =>
        have H := HC15.out
        clear HC15
        by_cases c16 : a0 ≥ 192
        · rw [if_pos c16] at H
          have c16b0 : decide (192 ≤ a0) = true := decide_eq_true c16
          clear c16
          (first | rw [c16b0] | (simp only [i64_w, i32_w]; rw [c16b0]) | skip)
          by_cases c17 : a0 ≤ 591
          · rw [if_pos c17] at H
            have c17b0 : decide (a0 ≤ 591) = true := decide_eq_true c17
            clear c17
            by_cases c18 : a0 = 215
            · rw [if_pos c18] at H
              obtain ⟨c18b0, c18b1⟩ := qe c18
              clear c18
              have H' := Aside0.mk H
              clear H
              go_wp2
              go_meet
              case rel => exact ⟨_, (false), qv, H', ⟨by have := HJ1.out; have := HJ6.out; first | omega | exact Nat.le_refl _⟩, by repeat (first | exact Drawn0.refl _ | apply Drawn0.step)⟩
            rw [if_neg c18] at H
            obtain ⟨c18b0, c18b1⟩ := qd c18
            have H' := Aside0.mk H
            clear H
            go_wp2
            go_meet
            case rel => exact ⟨_, ((a0 != 247)), qv, H', ⟨by have := HJ1.out; have := HJ6.out; first | omega | exact Nat.le_refl _⟩, by repeat (first | exact Drawn0.refl _ | apply Drawn0.step)⟩
          rw [if_neg c17] at H
          have c17b0 : decide (a0 ≤ 591) = false := decide_eq_false c17
          clear c17
          have H' := Aside0.mk H
          clear H
          go_wp2
          go_meet
          case rel => exact ⟨_, (false), qv, H', ⟨by have := HJ1.out; have := HJ6.out; first | omega | exact Nat.le_refl _⟩, by repeat (first | exact Drawn0.refl _ | apply Drawn0.step)⟩
        rw [if_neg c16] at H
        have c16b0 : decide (192 ≤ a0) = false := decide_eq_false c16
        clear c16
        (first | rw [c16b0] | (simp only [i64_w, i32_w]; rw [c16b0]) | skip)
        have H' := Aside0.mk H
        clear H
        go_wp2
        go_meet
        case rel => exact ⟨_, (false), qv, H', ⟨by have := HJ1.out; have := HJ6.out; first | omega | exact Nat.le_refl _⟩, by repeat (first | exact Drawn0.refl _ | apply Drawn0.step)⟩
      clear HC15
      obtain ⟨kq, x39_14, rfl, HA, HJ14, ⟨mc14, rfl⟩⟩ := hcut
      cases kq with
      | zero => exact absurd HA.out (by simp [malthouseref01_Class.j2])
      | succ kj14 =>
        have H := HA.out
        clear HA
        simp only [malthouseref01_Class.j2] at H
        by_cases c19 : x39_14 = true
        · subst c19
          rw [if_pos rfl] at H
          obtain rfl := Option.some.inj H
          go_wp2
          go_ret
          exact ⟨by first | rfl | (simp; done) | (simp [*]; done), by repeat (first | exact Drawn0.refl _ | apply Drawn0.step)⟩
        replace c19 := Bool.eq_false_iff.mpr c19
        subst c19
        rw [if_neg qf] at H
        have HC20 := Aside0.mk H
        clear H
        go_upto_region 7 with (fail)
        go_cut [54] (fun v54 wc => ∃ (kq : Nat) (x54_19 : Bool), v54 = .bool x54_19 ∧ Aside0 (malthouseref01_Class.j3 kq a0 x54_19 = some r) ∧ Aside0 (kq ≤ kj14) ∧ Drawn0 w wc)
        case first =>
          have H := HC20.out
          clear HC20
          by_cases c21 : a0 ≥ 48
          · rw [if_pos c21] at H
            have c21b0 : decide (48 ≤ a0) = true := decide_eq_true c21
            clear c21
            (first | rw [c21b0] | (simp only [i64_w, i32_w]; rw [c21b0]) | skip)
            have H' := Aside0.mk H
            clear H
            go_wp2
            go_meet
            case rel => exact ⟨_, (decide (a0 ≤ 57)), qv, H', ⟨by have := HJ1.out; have := HJ6.out; have := HJ14.out; first | omega | exact Nat.le_refl _⟩, by repeat (first | exact Drawn0.refl _ | apply Drawn0.step)⟩
          rw [if_neg c21] at H
          have c21b0 : decide (48 ≤ a0) = false := decide_eq_false c21
          clear c21
          (first | rw [c21b0] | (simp only [i64_w, i32_w]; rw [c21b0]) | skip)
          have H' := Aside0.mk H
          clear H
          go_wp2
          go_meet
          case rel => exact ⟨_, (false), qv, H', ⟨by have := HJ1.out; have := HJ6.out; have := HJ14.out; first | omega | exact Nat.le_refl _⟩, by repeat (first | exact Drawn0.refl _ | apply Drawn0.step)⟩
        clear HC20
        obtain ⟨kq, x54_19, rfl, HA, HJ19, ⟨mc19, rfl⟩⟩ := hcut
        cases kq with
        | zero => exact absurd HA.out (by simp [malthouseref01_Class.j3])
        | succ kj19 =>
          have H := HA.out
          clear HA
          simp only [malthouseref01_Class.j3] at H
          by_cases c22 : x54_19 = true
          · subst c22
            rw [if_pos rfl] at H
            obtain rfl := Option.some.inj H
            go_wp2
            go_ret
            exact ⟨by first | rfl | (simp; done) | (simp [*]; done), by repeat (first | exact Drawn0.refl _ | apply Drawn0.step)⟩
          replace c22 := Bool.eq_false_iff.mpr c22
          subst c22
          rw [if_neg qf] at H
          by_cases c23 : a0 = 34
          · rw [if_pos c23] at H
            obtain ⟨c23b0, c23b1⟩ := qe c23
            clear c23
            obtain rfl := Option.some.inj H
            go_wp2
            go_ret
            exact ⟨by first | rfl | (simp; done) | (simp [*]; done), by repeat (first | exact Drawn0.refl _ | apply Drawn0.step)⟩
          rw [if_neg c23] at H
          obtain ⟨c23b0, c23b1⟩ := qd c23
          by_cases c24 : a0 = 35
          · rw [if_pos c24] at H
            obtain ⟨c24b0, c24b1⟩ := qe c24
            clear c24
            obtain rfl := Option.some.inj H
            go_wp2
            go_ret
            exact ⟨by first | rfl | (simp; done) | (simp [*]; done), by repeat (first | exact Drawn0.refl _ | apply Drawn0.step)⟩
          rw [if_neg c24] at H
          obtain ⟨c24b0, c24b1⟩ := qd c24
          have H' := Aside0.mk H
          clear H
          go_wp2
          obtain ⟨S_, hS_⟩ : ∃ S_ : ByteArray, (⟨#[40, 41, 123, 125, 44, 59, 58, 61, 43, 45, 42, 47, 37, 60, 62, 33, 38, 124]⟩ : ByteArray) = S_ := ⟨_, rfl⟩
          rw [hS_] at H' ⊢
          clear hS_
          go_loopg [4] kj19 (fun kq v4 w' => ∃ (x4_5 : Int), v4 = .int .i64 x4_5 ∧ Aside0 (malthouseref01_Class.l0 kq a0 S_ x4_5 = some r) ∧ Aside0 (kq ≤ kj19) ∧ Drawn0 w w')
          case atStart => exact ⟨(0), qv, H', ⟨Nat.le_refl _⟩, by repeat (first | exact Drawn0.refl _ | apply Drawn0.step)⟩
          case round =>
            clear H'
            obtain ⟨x4_5, rfl, HA, HK5, ⟨m5, rfl⟩⟩ := hrel
            cases gk with
            | zero => exact absurd HA.out (by simp [malthouseref01_Class.l0])
            | succ k5 =>
              have H := HA.out
              clear HA
              simp only [malthouseref01_Class.l0] at H
              by_cases c25 : x4_5 < (S_.size : Int)
              · rw [if_pos c25] at H
                have c25b0 : decide (x4_5 < (S_.size : Int)) = true := decide_eq_true c25
                clear c25
                by_cases c26 : 0 ≤ x4_5
                · rw [if_pos c26] at H
                  have c26b0 : decide (0 ≤ x4_5) = true := decide_eq_true c26
                  clear c26
                  by_cases c28 : (wrap64 (bt S_ x4_5)) = a0
                  · rw [if_pos c28] at H
                    obtain ⟨c28b0, c28b1⟩ := qe c28
                    clear c28
                    obtain rfl := Option.some.inj H
                    have p27 : 0 ≤ (x4_5 : Int) := qa
                    have q27 : x4_5 < (S_.size : Int) := qa
                    have hx27 := bt_at S_ x4_5
                    replace p27 := eq_true p27
                    replace q27 := eq_true q27
                    go_wp2
                    go_ret
                    exact ⟨by first | rfl | (simp; done) | (simp [*]; done), by repeat (first | exact Drawn0.refl _ | apply Drawn0.step)⟩
                  rw [if_neg c28] at H
                  obtain ⟨c28b0, c28b1⟩ := qd c28
                  have H' := Aside0.mk H
                  clear H
                  have p27 : 0 ≤ (x4_5 : Int) := qa
                  have q27 : x4_5 < (S_.size : Int) := qa
                  have hx27 := bt_at S_ x4_5
                  replace p27 := eq_true p27
                  replace q27 := eq_true q27
                  go_wp2
                  go_roundg k5
                  case measure => have := HJ1.out; have := HJ6.out; have := HJ14.out; have := HJ19.out; have := HK5.out; omega
                  case rel => exact ⟨(wrap64 (x4_5 + 1)), qv, H', ⟨by have := HJ1.out; have := HJ6.out; have := HJ14.out; have := HJ19.out; have := HK5.out; omega⟩, by repeat (first | exact Drawn0.refl _ | apply Drawn0.step)⟩
                rw [if_neg c26] at H
                exact absurd H (by simp)
              rw [if_neg c25] at H
              have c25b0 : decide (x4_5 < (S_.size : Int)) = false := decide_eq_false c25
              clear c25
              obtain rfl := Option.some.inj H
              go_wp2
              go_ret
              exact ⟨by first | rfl | (simp; done) | (simp [*]; done), by repeat (first | exact Drawn0.refl _ | apply Drawn0.step)⟩
def malthouseref01_wordy.f (k : Nat) (a0 : Int) : Option (Bool) := (malthouseref01_Class.f k a0).bind fun t101 => (if t101 = 2 then (some true) else (some (t101 == 3)))
set_option maxHeartbeats 8000000 in
set_option maxRecDepth 100000 in
theorem malthouseref01_wordy.calls (k : Nat) (a0 : Int) (r : Bool) (w : World) (h : malthouseref01_wordy.f k a0 = some r) :
  Calls Tryd.prog 126 #[.int .i64 a0] w fun e w' => e = .returned (.bool r) ∧ Drawn0 w w' := by
 have H : ((malthouseref01_Class.f k a0).bind fun t101 => (if t101 = 2 then (some true) else (some (t101 == 3)))) = some r := h
 clear h
 replace H := qi H
 obtain ⟨t101, A2, H⟩ := H
 by_cases c3 : t101 = 2
 ·rw [if_pos c3] at H
  obtain ⟨c3b0, c3b1⟩ := qe c3
  clear c3
  obtain rfl := Option.some.inj H
  go_enter Tryd.func126, Tryd.ntmps126
  go_wp2_with (first | ((with_reducible refine gate_callee (f := 125) rfl ?_); refine goesL_ (some 5) rfl rfl Tryd.func125 (by kernel_rfl) rfl #[.int .i64 a0] rfl qm ?_; (with_reducible refine (malthouseref01_Class.calls k a0 t101 _ A2.out).mono ?_); rintro e w' ⟨rfl, ⟨nd, rfl⟩⟩; refine ⟨_, rfl, ?_⟩))
  go_ret
  exact ⟨by first | rfl | (simp; done) | (simp [*]; done), by repeat (first | exact Drawn0.refl _ | apply Drawn0.step)⟩
 rw [if_neg c3] at H
 obtain ⟨c3b0, c3b1⟩ := qd c3
 obtain rfl := Option.some.inj H
 go_enter Tryd.func126, Tryd.ntmps126
 go_wp2_with (first | ((with_reducible refine gate_callee (f := 125) rfl ?_); refine goesL_ (some 5) rfl rfl Tryd.func125 (by kernel_rfl) rfl #[.int .i64 a0] rfl qm ?_; (with_reducible refine (malthouseref01_Class.calls k a0 t101 _ A2.out).mono ?_); rintro e w' ⟨rfl, ⟨nd, rfl⟩⟩; refine ⟨_, rfl, ?_⟩))
 go_ret
 exact ⟨by first | rfl | (simp; done) | (simp [*]; done), by repeat (first | exact Drawn0.refl _ | apply Drawn0.step)⟩
mutual
def malthouseref01_Name.j0 : Nat → Bool → ByteArray → List Int → List Int → Option (Bool)
  | 0, _, _, _, _ => none
  | k + 1, x32, x110000, x110001, x110002 => if x32 = true then (some false) else (malthouseref01_Name.l0 k 0 x110000 x110001 x110002)
def malthouseref01_Name.l0 : Nat → Int → ByteArray → List Int → List Int → Option (Bool)
  | 0, _, _, _, _ => none
  | k + 1, x5, x110000, x110001, x110002 => if x5 < (x110001.length : Int) then (if 0 ≤ x5 then ((malthouseref01_wordy.f k (rd x110001 x5)).bind fun t113 => (if t113 = true then (malthouseref01_Name.l0 k (wrap64 (x5 + 1)) x110000 x110001 x110002) else (some false))) else (none)) else (some true)
end
def malthouseref01_Name.f (k : Nat) (a0 : ByteArray) : Option (Bool) := (malthouseref01_Runes.f k a0).bind fun bt101 => (if bt101.2.2.2 = true then (if (bt101.2.1.length : Int) = 0 then (malthouseref01_Name.j0 k true bt101.1 bt101.2.1 bt101.2.2.1) else (if (bt101.2.1.length : Int) > 12 then (malthouseref01_Name.j0 k true bt101.1 bt101.2.1 bt101.2.2.1) else (if 0 < (bt101.2.1.length : Int) then ((malthouseref01_Class.f k (rd bt101.2.1 0)).bind fun t111 => (malthouseref01_Name.j0 k (t111 != 2) bt101.1 bt101.2.1 bt101.2.2.1)) else (none)))) else (malthouseref01_Name.j0 k true bt101.1 bt101.2.1 bt101.2.2.1))
set_option maxHeartbeats 8000000 in
set_option maxRecDepth 100000 in
theorem malthouseref01_Name.calls (k : Nat) (a0 : ByteArray) (r : Bool) (w : World) (h : malthouseref01_Name.f k a0 = some r) :
    Calls Tryd.prog 94 #[.string a0] w fun e w' => e = .returned (.bool r) ∧ Below w.heap.size w w' := by
  have hu171 := Tryd.underlying171
  have HB := Aside0.mk (Below.refl w.heap.size w)
  have H : ((malthouseref01_Runes.f k a0).bind fun bt101 => (if bt101.2.2.2 = true then (if (bt101.2.1.length : Int) = 0 then (malthouseref01_Name.j0 k true bt101.1 bt101.2.1 bt101.2.2.1) else (if (bt101.2.1.length : Int) > 12 then (malthouseref01_Name.j0 k true bt101.1 bt101.2.1 bt101.2.2.1) else (if 0 < (bt101.2.1.length : Int) then ((malthouseref01_Class.f k (rd bt101.2.1 0)).bind fun t111 => (malthouseref01_Name.j0 k (t111 != 2) bt101.1 bt101.2.1 bt101.2.2.1)) else (none)))) else (malthouseref01_Name.j0 k true bt101.1 bt101.2.1 bt101.2.2.1))) = some r := h
  clear h
  replace H := qi H
  obtain ⟨⟨t101, t102, t105, t108⟩, A2, H⟩ := H
  replace H : (if t108 = true then (if (t102.length : Int) = 0 then (malthouseref01_Name.j0 k true t101 t102 t105) else (if (t102.length : Int) > 12 then (malthouseref01_Name.j0 k true t101 t102 t105) else (if 0 < (t102.length : Int) then ((malthouseref01_Class.f k (rd t102 0)).bind fun t111 => (malthouseref01_Name.j0 k (t111 != 2) t101 t102 t105)) else (none)))) else (malthouseref01_Name.j0 k true t101 t102 t105)) = some r := H
  have HC3 := Aside0.mk H
  clear H
  go_enter Tryd.func94, Tryd.ntmps94
  go_upto_region 2 with (first | ((with_reducible refine gate_callee (f := 124) rfl ?_); refine goesL_ (some 8) rfl rfl Tryd.func124 (by kernel_rfl) rfl #[.string a0] rfl qm ?_; (with_reducible refine (malthouseref01_Runes.calls k a0 t101 t102 t105 t108 _ A2.out).mono ?_); rintro e w4 ⟨v103, v106, rfl, ho0, ho1, hb⟩; refine ⟨_, rfl, ?_⟩; have n0_ := Aside0.mk (Kd.R_lower ho0 (below_size qb)); have n1_ := Aside0.mk (Kd.R_lower ho1 (below_size qb)); have n2_ := qs hb; clear HB; have HO104 := n0_; have HO107 := n1_; have HB := n2_; clear n0_ n1_ n2_; (try clear hb); (try clear ho0); (try clear ho1)) | ((with_reducible refine gate_dst (N := 3) rfl ?_); (try (refine gate_guard (by rfl) ?_; dsimp only)); refine box_event ?hg (N := 3) ?hd (cs := #[.string (⟨#[]⟩ : ByteArray), .slice none 0 0, .slice none 0 0]) (t := 171) ?hr ?_; (case hd => rfl); (case hg => rfl); (case hr => first | (go_simp; done) | (go_simp; rfl)); intro gb109 hg w5 hbox hb; have n0_ := Aside0.mk (Kd.R_below (by (with_reducible repeat (first | apply Kd.R_alloc | apply Kd.R_drewN | apply Kd.R_drew)); exact HO104.out) hb); have n1_ := Aside0.mk (Kd.R_below (by (with_reducible repeat (first | apply Kd.R_alloc | apply Kd.R_drewN | apply Kd.R_drew)); exact HO107.out) hb); have n2_ := qs hb; have n3_ := Aside0.mk (hbox); have n4_ := Aside0.mk ((by rw [hg]; exact (below_size qb) : w.heap.size ≤ gb109)); have n5_ := Aside0.mk ((by rw [hg]; exact (below_size qb) : w.heap.size ≤ gb109)); clear HO104; clear HO107; clear HB; have HO104 := n0_; have HO107 := n1_; have HB := n2_; have BK109 := n3_; have GW109 := n4_; have GE109 := n5_; clear n0_ n1_ n2_ n3_ n4_ n5_; clear hb hbox hg; obtain ⟨_, _, _, _, _, _⟩ := q3 BK109.out; obtain ⟨Ao7, co7, eo7⟩ := Kd.R_slice HO104.out; subst eo7; obtain ⟨Ao8, co8, eo8⟩ := Kd.R_slice HO107.out; subst eo8))
  (try simp only [Act.put, List.setIfInBounds_toArray, List.set_cons_zero, List.set_cons_succ])
  go_cut [32] (fun v32 wc => ∃ (kq : Nat) (x32_2 : Bool), v32 = .bool x32_2 ∧ Aside0 (malthouseref01_Name.j0 kq x32_2 t101 t102 t105 = some r) ∧ Aside0 (kq ≤ k) ∧ Aside0 (Kd.R (Kd.int .i64) 3 wc w.heap.size (fun k_ => some k_ ≠ ((.slice Ao8 t105.length co8) : Value).ownBlock) (.slice Ao7 t102.length co7) t102) ∧ Aside0 (Kd.R (Kd.int .i64) 3 wc w.heap.size (fun k_ => some k_ ≠ ((.slice Ao7 t102.length co7) : Value).ownBlock) (.slice Ao8 t105.length co8) t105) ∧ Aside0 (wc.heap[gb109]? = some (.cells #[.string t101, (.slice Ao7 t102.length co7), (.slice Ao8 t105.length co8)] 171 (0, 0))) ∧ Aside0 (Below w.heap.size w wc))
  case first =>
    have H := HC3.out
    clear HC3
    by_cases c9 : t108 = true
    · subst c9
      rw [if_pos rfl] at H
      by_cases c10 : (t102.length : Int) = 0
      · rw [if_pos c10] at H
        obtain ⟨c10b0, c10b1⟩ := qe c10
        clear c10
        (first | rw [c10b0] | (simp only [i64_w, i32_w]; rw [c10b0]) | skip)
        have H' := Aside0.mk H
        clear H
        obtain ⟨_, _, _, _, _, _⟩ := q3 BK109.out
        go_wp2
        go_meet
        case rel => exact ⟨_, (true), qv, H', ql, ⟨by (with_reducible repeat (first | apply Kd.R_alloc | apply Kd.R_drewN | apply Kd.R_drew)); exact Kd.R_mono (Kd.R_far (p := ⟨gb109, 2, none⟩) (Kd.R_far (p := ⟨gb109, 1, none⟩) (Kd.R_far (p := ⟨gb109, 0, none⟩) (Kd.R_types HO104.out BK109.out (by decide)) (fun _ hk => hk.2) (.string t101)) (fun _ hk => hk.2) (.slice Ao7 t102.length co7)) (fun _ hk => hk.2) (.slice Ao8 t105.length co8)) (fun _ hk => hk.1)⟩, ⟨by (with_reducible repeat (first | apply Kd.R_alloc | apply Kd.R_drewN | apply Kd.R_drew)); exact Kd.R_mono (Kd.R_far (p := ⟨gb109, 2, none⟩) (Kd.R_far (p := ⟨gb109, 1, none⟩) (Kd.R_far (p := ⟨gb109, 0, none⟩) (Kd.R_types HO107.out BK109.out (by decide)) (fun _ hk => hk.2) (.string t101)) (fun _ hk => hk.2) (.slice Ao7 t102.length co7)) (fun _ hk => hk.2) (.slice Ao8 t105.length co8)) (fun _ hk => hk.1)⟩, qY109, qB⟩
      rw [if_neg c10] at H
      obtain ⟨c10b0, c10b1⟩ := qd c10
      have c10b2 : ¬ (t102 = []) := fun h_ => c10 (by rw [h_]; rfl)
      (first | rw [c10b0] | (simp only [i64_w, i32_w]; rw [c10b0]) | skip)
      by_cases c12 : (t102.length : Int) > 12
      · rw [if_pos c12] at H
        have c12b0 : decide (12 < (t102.length : Int)) = true := decide_eq_true c12
        have c12b1 : decide (12 < t102.length) = true := decide_eq_true (by omega)
        clear c12
        have H' := Aside0.mk H
        clear H
        obtain ⟨_, _, _, _, _, _⟩ := q3 BK109.out
        go_wp2
        go_meet
        case rel => exact ⟨_, (true), qv, H', ql, ⟨by (with_reducible repeat (first | apply Kd.R_alloc | apply Kd.R_drewN | apply Kd.R_drew)); exact Kd.R_mono (Kd.R_far (p := ⟨gb109, 2, none⟩) (Kd.R_far (p := ⟨gb109, 1, none⟩) (Kd.R_far (p := ⟨gb109, 0, none⟩) (Kd.R_types HO104.out BK109.out (by decide)) (fun _ hk => hk.2) (.string t101)) (fun _ hk => hk.2) (.slice Ao7 t102.length co7)) (fun _ hk => hk.2) (.slice Ao8 t105.length co8)) (fun _ hk => hk.1)⟩, ⟨by (with_reducible repeat (first | apply Kd.R_alloc | apply Kd.R_drewN | apply Kd.R_drew)); exact Kd.R_mono (Kd.R_far (p := ⟨gb109, 2, none⟩) (Kd.R_far (p := ⟨gb109, 1, none⟩) (Kd.R_far (p := ⟨gb109, 0, none⟩) (Kd.R_types HO107.out BK109.out (by decide)) (fun _ hk => hk.2) (.string t101)) (fun _ hk => hk.2) (.slice Ao7 t102.length co7)) (fun _ hk => hk.2) (.slice Ao8 t105.length co8)) (fun _ hk => hk.1)⟩, qY109, qB⟩
      rw [if_neg c12] at H
      have c12b0 : decide (12 < (t102.length : Int)) = false := decide_eq_false c12
      have c12b1 : decide (12 < t102.length) = false := decide_eq_false (by omega)
      clear c12
      by_cases c14 : 0 < (t102.length : Int)
      · rw [if_pos c14] at H
        have c14b0 : decide (0 < (t102.length : Int)) = true := decide_eq_true c14
        have c14b1 : decide (0 < t102.length) = true := decide_eq_true (by omega)
        clear c14
        replace H := qi H
        obtain ⟨t111, A15, H⟩ := H
        have H' := Aside0.mk H
        clear H
        obtain ⟨_, _, _, _, _, _⟩ := q3 BK109.out
        have p110 : 0 ≤ (0 : Int) := (by omega)
        have q110 : 0 < (t102.length : Int) := qa
        obtain ⟨ad110, e110, hx110_0⟩ := Kd.at_int (Kd.R_reads' HO104.out).2.2 0 p110 q110
        cases e110
        have qi110 : (0 < t102.length) = True := eq_true (by omega)
        (try rw [show ((0 : Int)).toNat = 0 from rfl] at hx110_0)
        (try rw [Addr.add_zero'] at hx110_0)
        have hn110_0 : ad110.block ≠ gb109 := Kd.own_blk (Kd.R_ne HO104.out BK109.out (by decide))
        have hn110_1 : ad110.block ≠ gb109 := Kd.own_blk (Kd.R_ne HO104.out BK109.out (by decide))
        have hn110_2 : ad110.block ≠ gb109 := Kd.own_blk (Kd.R_ne HO104.out BK109.out (by decide))
        replace hx110_0 := (cell_far (p := ⟨gb109, 0, none⟩) (by first | (rw [add_block]; exact hn110_0) | (show (Addr.add _ _).block ≠ _; rw [add_block]; exact hn110_0) | exact hn110_0) (.string t101)).trans hx110_0
        replace hx110_0 := (cell_far (p := ⟨gb109, 1, none⟩) (by first | (rw [add_block]; exact hn110_1) | (show (Addr.add _ _).block ≠ _; rw [add_block]; exact hn110_1) | exact hn110_1) (.slice (some ad110) t102.length co7)).trans hx110_0
        replace hx110_0 := (cell_far (p := ⟨gb109, 2, none⟩) (by first | (rw [add_block]; exact hn110_2) | (show (Addr.add _ _).block ≠ _; rw [add_block]; exact hn110_2) | exact hn110_2) (.slice Ao8 t105.length co8)).trans hx110_0
        clear hn110_0
        clear hn110_1
        clear hn110_2
        replace p110 := eq_true p110
        replace q110 := eq_true q110
        go_wp2_with (first | (go_at_call 125; (with_reducible refine (malthouseref01_Class.calls k (rd t102 0) t111 _ A15.out).mono ?_); rintro e w' ⟨rfl, ⟨nd, rfl⟩⟩))
        go_meet
        case rel => exact ⟨_, ((t111 != 2)), qv, H', ql, ⟨by (with_reducible repeat (first | apply Kd.R_alloc | apply Kd.R_drewN | apply Kd.R_drew)); exact Kd.R_mono (Kd.R_far (p := ⟨gb109, 2, none⟩) (Kd.R_far (p := ⟨gb109, 1, none⟩) (Kd.R_far (p := ⟨gb109, 0, none⟩) (Kd.R_types HO104.out BK109.out (by decide)) (fun _ hk => hk.2) (.string t101)) (fun _ hk => hk.2) (.slice (some ad110) t102.length co7)) (fun _ hk => hk.2) (.slice Ao8 t105.length co8)) (fun _ hk => hk.1)⟩, ⟨by (with_reducible repeat (first | apply Kd.R_alloc | apply Kd.R_drewN | apply Kd.R_drew)); exact Kd.R_mono (Kd.R_far (p := ⟨gb109, 2, none⟩) (Kd.R_far (p := ⟨gb109, 1, none⟩) (Kd.R_far (p := ⟨gb109, 0, none⟩) (Kd.R_types HO107.out BK109.out (by decide)) (fun _ hk => hk.2) (.string t101)) (fun _ hk => hk.2) (.slice (some ad110) t102.length co7)) (fun _ hk => hk.2) (.slice Ao8 t105.length co8)) (fun _ hk => hk.1)⟩, qY109, qB⟩
      rw [if_neg c14] at H
      exact absurd H (by simp)
    replace c9 := Bool.eq_false_iff.mpr c9
    subst c9
    rw [if_neg qf] at H
    have H' := Aside0.mk H
    clear H
    go_wp2
    go_meet
    case rel => exact ⟨_, (true), qv, H', ql, ⟨by (with_reducible repeat (first | apply Kd.R_alloc | apply Kd.R_drewN | apply Kd.R_drew)); exact Kd.R_mono (Kd.R_far (p := ⟨gb109, 2, none⟩) (Kd.R_far (p := ⟨gb109, 1, none⟩) (Kd.R_far (p := ⟨gb109, 0, none⟩) (Kd.R_types HO104.out BK109.out (by decide)) (fun _ hk => hk.2) (.string t101)) (fun _ hk => hk.2) (.slice Ao7 t102.length co7)) (fun _ hk => hk.2) (.slice Ao8 t105.length co8)) (fun _ hk => hk.1)⟩, ⟨by (with_reducible repeat (first | apply Kd.R_alloc | apply Kd.R_drewN | apply Kd.R_drew)); exact Kd.R_mono (Kd.R_far (p := ⟨gb109, 2, none⟩) (Kd.R_far (p := ⟨gb109, 1, none⟩) (Kd.R_far (p := ⟨gb109, 0, none⟩) (Kd.R_types HO107.out BK109.out (by decide)) (fun _ hk => hk.2) (.string t101)) (fun _ hk => hk.2) (.slice Ao7 t102.length co7)) (fun _ hk => hk.2) (.slice Ao8 t105.length co8)) (fun _ hk => hk.1)⟩, qY109, qB⟩
  clear HC3
  obtain ⟨kq, x32_2, rfl, HA, HJ2, HO_110001, HO_110002, BK109, HB⟩ := hcut
  cases kq with
  | zero => exact absurd HA.out (by simp [malthouseref01_Name.j0])
  | succ kj2 =>
    have H := HA.out
    clear HA
    simp only [malthouseref01_Name.j0] at H
    by_cases c17 : x32_2 = true
    · subst c17
      rw [if_pos rfl] at H
      obtain rfl := Option.some.inj H
      go_wp2
      go_ret
      exact qr
    replace c17 := Bool.eq_false_iff.mpr c17
    subst c17
    rw [if_neg qf] at H
    have H' := Aside0.mk H
    clear H
    go_wp2
    go_loopg [5] kj2 (fun kq v5 w' => ∃ (x5_2 : Int), v5 = .int .i64 x5_2 ∧ Aside0 (malthouseref01_Name.l0 kq x5_2 t101 t102 t105 = some r) ∧ Aside0 (kq ≤ kj2) ∧ Aside0 (Kd.R (Kd.int .i64) 3 w' w.heap.size (fun k_ => some k_ ≠ ((.slice Ao8 t105.length co8) : Value).ownBlock) (.slice Ao7 t102.length co7) t102) ∧ Aside0 (Kd.R (Kd.int .i64) 3 w' w.heap.size (fun k_ => some k_ ≠ ((.slice Ao7 t102.length co7) : Value).ownBlock) (.slice Ao8 t105.length co8) t105) ∧ Aside0 (w'.heap[gb109]? = some (.cells #[.string t101, (.slice Ao7 t102.length co7), (.slice Ao8 t105.length co8)] 171 (0, 0))) ∧ Aside0 (Below w.heap.size w w'))
    case atStart => exact ⟨(0), qv, H', ⟨Nat.le_refl _⟩, ⟨by (with_reducible repeat (first | apply Kd.R_alloc | apply Kd.R_drewN | apply Kd.R_drew)); exact HO_110001.out⟩, ⟨by (with_reducible repeat (first | apply Kd.R_alloc | apply Kd.R_drewN | apply Kd.R_drew)); exact HO_110002.out⟩, qk109, qB⟩
    case round =>
      clear H'
      obtain ⟨x5_2, rfl, HA, HK2, HO_110001, HO_110002, BK109, HB⟩ := hrel
      cases gk with
      | zero => exact absurd HA.out (by simp [malthouseref01_Name.l0])
      | succ k2 =>
        have H := HA.out
        clear HA
        simp only [malthouseref01_Name.l0] at H
        by_cases c18 : x5_2 < (t102.length : Int)
        · rw [if_pos c18] at H
          have c18b0 : decide (x5_2 < (t102.length : Int)) = true := decide_eq_true c18
          clear c18
          by_cases c19 : 0 ≤ x5_2
          · rw [if_pos c19] at H
            have c19b0 : decide (0 ≤ x5_2) = true := decide_eq_true c19
            clear c19
            replace H := qi H
            obtain ⟨t113, A20, H⟩ := H
            by_cases c21 : t113 = true
            · subst c21
              rw [if_pos rfl] at H
              have H' := Aside0.mk H
              clear H
              obtain ⟨_, _, _, _, _, _⟩ := q3 BK109.out
              have p112 : 0 ≤ (x5_2 : Int) := qa
              have q112 : x5_2 < (t102.length : Int) := qa
              obtain ⟨ad112, e112, hx112_0⟩ := Kd.at_int (Kd.R_reads' HO_110001.out).2.2 x5_2 p112 q112
              cases e112
              replace p112 := eq_true p112
              replace q112 := eq_true q112
              go_wp2_with (first | ((with_reducible refine gate_callee (f := 126) rfl ?_); refine goesL_ (some 45) rfl rfl Tryd.func126 (by kernel_rfl) rfl #[.int .i64 (rd t102 x5_2)] rfl qm ?_; (with_reducible refine (malthouseref01_wordy.calls k2 (rd t102 x5_2) true _ A20.out).mono ?_); rintro e w' ⟨rfl, ⟨nd, rfl⟩⟩; refine ⟨_, rfl, ?_⟩))
              go_roundg k2
              case measure => have := HJ2.out; have := HK2.out; omega
              case rel => exact ⟨(wrap64 (x5_2 + 1)), qv, H', ⟨by have := HJ2.out; have := HK2.out; omega⟩, ⟨by (with_reducible repeat (first | apply Kd.R_alloc | apply Kd.R_drewN | apply Kd.R_drew)); exact HO_110001.out⟩, ⟨by (with_reducible repeat (first | apply Kd.R_alloc | apply Kd.R_drewN | apply Kd.R_drew)); exact HO_110002.out⟩, qk109, qB⟩
            replace c21 := Bool.eq_false_iff.mpr c21
            subst c21
            rw [if_neg qf] at H
            obtain rfl := Option.some.inj H
            obtain ⟨_, _, _, _, _, _⟩ := q3 BK109.out
            have p112 : 0 ≤ (x5_2 : Int) := qa
            have q112 : x5_2 < (t102.length : Int) := qa
            obtain ⟨ad112, e112, hx112_0⟩ := Kd.at_int (Kd.R_reads' HO_110001.out).2.2 x5_2 p112 q112
            cases e112
            replace p112 := eq_true p112
            replace q112 := eq_true q112
            go_wp2_with (first | ((with_reducible refine gate_callee (f := 126) rfl ?_); refine goesL_ (some 45) rfl rfl Tryd.func126 (by kernel_rfl) rfl #[.int .i64 (rd t102 x5_2)] rfl qm ?_; (with_reducible refine (malthouseref01_wordy.calls k2 (rd t102 x5_2) false _ A20.out).mono ?_); rintro e w' ⟨rfl, ⟨nd, rfl⟩⟩; refine ⟨_, rfl, ?_⟩))
            go_ret
            exact qr
          rw [if_neg c19] at H
          exact absurd H (by simp)
        rw [if_neg c18] at H
        have c18b0 : decide (x5_2 < (t102.length : Int)) = false := decide_eq_false c18
        clear c18
        obtain rfl := Option.some.inj H
        obtain ⟨_, _, _, _, _, _⟩ := q3 BK109.out
        go_wp2
        go_ret
        exact qr
end Go.Proofs.YtiaccdaeomaogaaDoor.F
