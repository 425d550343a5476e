-- written by inject.py (this session's) with the kit's printer. Lean checks it.
import Derived.Test.YtnlbmhojjjjpdaaF0
import Derived.Test.YtnlbmhojjjjpdaaFchartbusy
namespace Go.Proofs.Ytnlbmhojjjjpdaa.F
open Go.RowKit Go.Proofs.YtnlbmhojjjjpdaaW.PrintWords Go.Proofs.YtnlbmhojjjjpdaaW.PrintLast Go.Proofs.YtnlbmhojjjjpdaaW.PrintMore
attribute [local go_sem] max2_int min2_int max_two min_two max_three min_three max_four min_four   -- for this text's walks alone
set_option linter.unusedVariables false
set_option linter.unusedSimpArgs false

/-! ### chart_Cold: function 51 -/
def chart_Cold.f (a0 : Int) : Option (Int) := (chart_busy.f a0).bind fun t101 => (if t101 = true then (some 5) else (if a0 = 7 then (some (wrap64 (a0 + 1))) else (if a0 = 9 then (some (wrap64 (a0 + 1))) else (some a0))))
set_option maxHeartbeats 8000000 in
set_option maxRecDepth 100000 in
theorem chart_Cold.calls (a0 : Int) (r : Int) (w : World) (h : chart_Cold.f a0 = some r) :
    Calls Try.prog 51 #[.int .i64 a0] w fun e w' => e = .returned (.int .i64 r) ∧ Drawn0 w w' := by
  have H : ((chart_busy.f a0).bind fun t101 => (if t101 = true then (some 5) else (if a0 = 7 then (some (wrap64 (a0 + 1))) else (if a0 = 9 then (some (wrap64 (a0 + 1))) else (some a0))))) = some r := h
  clear h
  replace H := Option.bind_eq_some_iff.mp H
  obtain ⟨t101, A20, H⟩ := H
  replace H : (if t101 = true then (some 5) else (if a0 = 7 then (some (wrap64 (a0 + 1))) else (if a0 = 9 then (some (wrap64 (a0 + 1))) else (some a0)))) = some r := H
  have A2 := Aside0.mk A20
  clear A20
  by_cases c3 : t101 = true
  · subst c3
    have H1 : (some 5) = some r := by rw [if_pos rfl] at H; exact H
    clear H
    have H := H1
    clear H1
    obtain rfl := Option.some.inj H
    go_enter Try.func51, Try.ntmps51
    go_wp2_with (first | ((with_reducible refine gate_callee (f := 65) rfl ?_); refine goesL_ (some 5) rfl rfl Try.func65 (by kernel_rfl) rfl #[.int .i64 a0] rfl (by (try simp only [List.map_toArray, List.map_cons, List.map_nil]); first | done | rfl | (simp only [List.length_drop, List.length_take]; rfl)) ?_; (with_reducible refine (chart_busy.calls a0 true _ A2.out).mono ?_); rintro e w' ⟨rfl, ⟨nd, rfl⟩⟩; refine ⟨_, rfl, ?_⟩))
    go_ret
    exact ⟨by first | rfl | (simp; done) | (simp [*]; done), by repeat (first | exact Drawn0.refl _ | apply Drawn0.step)⟩
  · replace c3 := Bool.eq_false_iff.mpr c3
    subst c3
    have H1 : (if a0 = 7 then (some (wrap64 (a0 + 1))) else (if a0 = 9 then (some (wrap64 (a0 + 1))) else (some a0))) = some r := by rw [if_neg (show ¬ (false = true) by decide)] at H; exact H
    clear H
    have H := H1
    clear H1
    by_cases c4 : a0 = 7
    · rw [if_pos c4] at H
      have c4b0 : (a0 == 7) = true := beq_iff_eq.mpr c4
      have c4b1 : (a0 != 7) = false := bne_eq_false_iff_eq.mpr c4
      clear c4
      obtain rfl := Option.some.inj H
      go_enter Try.func51, Try.ntmps51
      go_wp2_with (first | ((with_reducible refine gate_callee (f := 65) rfl ?_); refine goesL_ (some 5) rfl rfl Try.func65 (by kernel_rfl) rfl #[.int .i64 a0] rfl (by (try simp only [List.map_toArray, List.map_cons, List.map_nil]); first | done | rfl | (simp only [List.length_drop, List.length_take]; rfl)) ?_; (with_reducible refine (chart_busy.calls a0 false _ A2.out).mono ?_); rintro e w' ⟨rfl, ⟨nd, rfl⟩⟩; refine ⟨_, rfl, ?_⟩))
      go_ret
      exact ⟨by first | rfl | (simp; done) | (simp [*]; done), by repeat (first | exact Drawn0.refl _ | apply Drawn0.step)⟩
    · rw [if_neg c4] at H
      have c4b0 : (a0 == 7) = false := beq_eq_false_iff_ne.mpr c4
      have c4b1 : (a0 != 7) = true := bne_iff_ne.mpr c4
      by_cases c5 : a0 = 9
      · rw [if_pos c5] at H
        have c5b0 : (a0 == 9) = true := beq_iff_eq.mpr c5
        have c5b1 : (a0 != 9) = false := bne_eq_false_iff_eq.mpr c5
        clear c5
        obtain rfl := Option.some.inj H
        go_enter Try.func51, Try.ntmps51
        go_wp2_with (first | ((with_reducible refine gate_callee (f := 65) rfl ?_); refine goesL_ (some 5) rfl rfl Try.func65 (by kernel_rfl) rfl #[.int .i64 a0] rfl (by (try simp only [List.map_toArray, List.map_cons, List.map_nil]); first | done | rfl | (simp only [List.length_drop, List.length_take]; rfl)) ?_; (with_reducible refine (chart_busy.calls a0 false _ A2.out).mono ?_); rintro e w' ⟨rfl, ⟨nd, rfl⟩⟩; refine ⟨_, rfl, ?_⟩))
        go_ret
        exact ⟨by first | rfl | (simp; done) | (simp [*]; done), by repeat (first | exact Drawn0.refl _ | apply Drawn0.step)⟩
      · rw [if_neg c5] at H
        have c5b0 : (a0 == 9) = false := beq_eq_false_iff_ne.mpr c5
        have c5b1 : (a0 != 9) = true := bne_iff_ne.mpr c5
        obtain rfl := Option.some.inj H
        go_enter Try.func51, Try.ntmps51
        go_wp2_with (first | ((with_reducible refine gate_callee (f := 65) rfl ?_); refine goesL_ (some 5) rfl rfl Try.func65 (by kernel_rfl) rfl #[.int .i64 a0] rfl (by (try simp only [List.map_toArray, List.map_cons, List.map_nil]); first | done | rfl | (simp only [List.length_drop, List.length_take]; rfl)) ?_; (with_reducible refine (chart_busy.calls a0 false _ A2.out).mono ?_); rintro e w' ⟨rfl, ⟨nd, rfl⟩⟩; refine ⟨_, rfl, ?_⟩))
        go_ret
        exact ⟨by first | rfl | (simp; done) | (simp [*]; done), by repeat (first | exact Drawn0.refl _ | apply Drawn0.step)⟩

end Go.Proofs.Ytnlbmhojjjjpdaa.F
