-- written by inject.py (this session's) with the kit's printer. Lean checks it.
import Derived.Test.YtnlbmhojjjjpdaaF0
import Derived.Test.YtnlbmhojjjjpdaaFmalthouseref10Cold
import Derived.Test.YtnlbmhojjjjpdaaFmalthouseref10Done
import Derived.Test.YtnlbmhojjjjpdaaFmalthouseref10Next
namespace Go.Proofs.Ytnlbmhojjjjpdaa.F
open Go.RowKit Go.Proofs.YtnlbmhojjjjpdaaW.PrintWords Go.Proofs.YtnlbmhojjjjpdaaW.PrintLast Go.Proofs.YtnlbmhojjjjpdaaW.PrintMore
attribute [local go_sem] max2_int min2_int max_two min_two max_three min_three max_four min_four   -- for this text's walks alone
set_option linter.unusedVariables false
set_option linter.unusedSimpArgs false

/-! ### malthouseref10_Edge: function 54 -/
def malthouseref10_Edge.l0 : Nat → Int → Int → Int → Option (Bool)
  | 0, _, _, _ => none
  | k + 1, x0, x1, x5 => if x5 < 8 then ((malthouseref10_Next.f k x0 x5).bind fun bt189 => (if bt189.2 = true then (if bt189.1 = x1 then (some true) else (malthouseref10_Edge.l0 k x0 x1 (wrap64 (x5 + 1)))) else (malthouseref10_Edge.l0 k x0 x1 (wrap64 (x5 + 1))))) else ((malthouseref10_Done.f x0).bind fun bt191 => (if bt191.2 = true then (if bt191.1 = x1 then (some true) else ((malthouseref10_Cold.f k x0).bind fun t193 => (some (t193 == x1)))) else ((malthouseref10_Cold.f k x0).bind fun t194 => (some (t194 == x1)))))
def malthouseref10_Edge.f (k : Nat) (a0 : Int) (a1 : Int) : Option (Bool) := if a0 = a1 then (some false) else (malthouseref10_Edge.l0 k a0 a1 0)
theorem malthouseref10_Edge.mono_l : ∀ k, (∀ y0 y1 y2, LeO (malthouseref10_Edge.l0 k y0 y1 y2) (malthouseref10_Edge.l0 (k + 1) y0 y1 y2))
  | 0 => fun _ _ _ r h => by simp [malthouseref10_Edge.l0] at h
  | k + 1 => by
    have ih0 := malthouseref10_Edge.mono_l k
    · intro y0 y1 y2
      unfold malthouseref10_Edge.l0
      repeat' first
      | (with_reducible exact ih0 _ _ _)
      | (with_reducible exact malthouseref10_Cold.mono _ _)
      | (with_reducible exact malthouseref10_Next.mono _ _ _)
      | (with_reducible exact LeO.refl _)
      | (with_reducible exact LeO.none _)
      | (with_reducible refine LeO.ite ?_ ?_)
      | (with_reducible refine LeO.bind ?_ (fun _ => ?_))
      | exact ih0 _ _ _
      | exact malthouseref10_Cold.mono _ _
      | exact malthouseref10_Next.mono _ _ _
      | exact LeO.none _
      | refine LeO.ite ?_ ?_
      | refine LeO.bind ?_ (fun _ => ?_)
theorem malthouseref10_Edge.mono : ∀ a0 a1 k, LeO (malthouseref10_Edge.f k a0 a1) (malthouseref10_Edge.f (k + 1) a0 a1) := by
  intro a0 a1 k
  have ih0 := malthouseref10_Edge.mono_l k
  unfold malthouseref10_Edge.f
  repeat' first
      | (with_reducible exact ih0 _ _ _)
      | (with_reducible exact malthouseref10_Cold.mono _ _)
      | (with_reducible exact malthouseref10_Next.mono _ _ _)
      | (with_reducible exact LeO.refl _)
      | (with_reducible exact LeO.none _)
      | (with_reducible refine LeO.ite ?_ ?_)
      | (with_reducible refine LeO.bind ?_ (fun _ => ?_))
      | exact ih0 _ _ _
      | exact malthouseref10_Cold.mono _ _
      | exact malthouseref10_Next.mono _ _ _
      | exact LeO.none _
      | refine LeO.ite ?_ ?_
      | refine LeO.bind ?_ (fun _ => ?_)
set_option maxHeartbeats 8000000 in
set_option maxRecDepth 100000 in
theorem malthouseref10_Edge.calls (k : Nat) (a0 : Int) (a1 : Int) (r : Bool) (w : World) (h : malthouseref10_Edge.f k a0 a1 = some r) :
    Calls Try.prog 54 #[.int .i64 a0, .int .i64 a1] w fun e w' => e = .returned (.bool r) ∧ Drawn0 w w' := by
  have H : (if a0 = a1 then (some false) else (malthouseref10_Edge.l0 k a0 a1 0)) = some r := h
  clear h
  by_cases c3 : a0 = a1
  · rw [if_pos c3] at H
    have c3b0 : (a0 == a1) = true := beq_iff_eq.mpr c3
    have c3b1 : (a0 != a1) = false := bne_eq_false_iff_eq.mpr c3
    clear c3
    obtain rfl := Option.some.inj H
    go_enter Try.func54, Try.ntmps54
    go_wp2
    go_ret
    exact ⟨by first | rfl | (simp; done) | (simp [*]; done), by repeat (first | exact Drawn0.refl _ | apply Drawn0.step)⟩
  · rw [if_neg c3] at H
    have c3b0 : (a0 == a1) = false := beq_eq_false_iff_ne.mpr c3
    have c3b1 : (a0 != a1) = true := bne_iff_ne.mpr c3
    have H' := Aside0.mk H
    clear H
    go_enter Try.func54, Try.ntmps54
    go_wp2
    go_loopg [5] k (fun kq v5 w' => ∃ (x5_1 : Int), v5 = .int .i64 x5_1 ∧ Aside0 (malthouseref10_Edge.l0 kq a0 a1 x5_1 = some r) ∧ Aside0 (kq ≤ k) ∧ Drawn0 w w')
    case atStart => exact ⟨(0), (by first | rfl | (simp; done) | (simp [*]; done)), H', ⟨Nat.le_refl _⟩, by repeat (first | exact Drawn0.refl _ | apply Drawn0.step)⟩
    case round =>
      clear H'
      try clear p2
      try clear c3
      try clear c3b0
      try clear c3b1
      obtain ⟨x5_1, rfl, HA, HK1, ⟨m1, rfl⟩⟩ := hrel
      cases gk with
      | zero => exact absurd HA.out (by simp [malthouseref10_Edge.l0])
      | succ k1 =>
        have H := HA.out
        clear HA
        simp only [malthouseref10_Edge.l0] at H
        by_cases c4 : x5_1 < 8
        · rw [if_pos c4] at H
          have c4b0 : decide (x5_1 < 8) = true := decide_eq_true c4
          clear c4
          replace H := Option.bind_eq_some_iff.mp H
          obtain ⟨⟨t189, t190⟩, A50, H⟩ := H
          replace H : (if t190 = true then (if t189 = a1 then (some true) else (malthouseref10_Edge.l0 k1 a0 a1 (wrap64 (x5_1 + 1)))) else (malthouseref10_Edge.l0 k1 a0 a1 (wrap64 (x5_1 + 1)))) = some r := H
          have A5 := Aside0.mk A50
          clear A50
          by_cases c6 : t190 = true
          · subst c6
            have H1 : (if t189 = a1 then (some true) else (malthouseref10_Edge.l0 k1 a0 a1 (wrap64 (x5_1 + 1)))) = some r := by rw [if_pos rfl] at H; exact H
            clear H
            have H := H1
            clear H1
            by_cases c7 : t189 = a1
            · rw [if_pos c7] at H
              have c7b0 : (t189 == a1) = true := beq_iff_eq.mpr c7
              have c7b1 : (t189 != a1) = false := bne_eq_false_iff_eq.mpr c7
              clear c7
              obtain rfl := Option.some.inj H
              go_wp2_with (first | ((with_reducible refine gate_callee (f := 45) rfl ?_); refine goesL_ (some 20) rfl rfl Try.func45 (by kernel_rfl) rfl #[.int .i64 a0, .int .i64 x5_1] rfl (by (try simp only [List.map_toArray, List.map_cons, List.map_nil]); first | done | rfl | (simp only [List.length_drop, List.length_take]; rfl)) ?_; (with_reducible refine (malthouseref10_Next.calls k1 a0 x5_1 t189 true _ A5.out).mono ?_); rintro e w' ⟨rfl, ⟨nd, rfl⟩⟩; refine ⟨_, rfl, ?_⟩))
              go_ret
              exact ⟨by first | rfl | (simp; done) | (simp [*]; done), by repeat (first | exact Drawn0.refl _ | apply Drawn0.step)⟩
            · rw [if_neg c7] at H
              have c7b0 : (t189 == a1) = false := beq_eq_false_iff_ne.mpr c7
              have c7b1 : (t189 != a1) = true := bne_iff_ne.mpr c7
              have H' := Aside0.mk H
              clear H
              go_wp2_with (first | ((with_reducible refine gate_callee (f := 45) rfl ?_); refine goesL_ (some 20) rfl rfl Try.func45 (by kernel_rfl) rfl #[.int .i64 a0, .int .i64 x5_1] rfl (by (try simp only [List.map_toArray, List.map_cons, List.map_nil]); first | done | rfl | (simp only [List.length_drop, List.length_take]; rfl)) ?_; (with_reducible refine (malthouseref10_Next.calls k1 a0 x5_1 t189 true _ A5.out).mono ?_); rintro e w' ⟨rfl, ⟨nd, rfl⟩⟩; refine ⟨_, rfl, ?_⟩))
              go_roundg k1
              case measure => have := HK1.out; omega
              case rel => exact ⟨(wrap64 (x5_1 + 1)), (by first | rfl | (simp; done) | (simp [*]; done)), H', ⟨by have := HK1.out; omega⟩, by repeat (first | exact Drawn0.refl _ | apply Drawn0.step)⟩
          · replace c6 := Bool.eq_false_iff.mpr c6
            subst c6
            have H1 : (malthouseref10_Edge.l0 k1 a0 a1 (wrap64 (x5_1 + 1))) = some r := by rw [if_neg (show ¬ (false = true) by decide)] at H; exact H
            clear H
            have H := H1
            clear H1
            have H' := Aside0.mk H
            clear H
            go_wp2_with (first | ((with_reducible refine gate_callee (f := 45) rfl ?_); refine goesL_ (some 20) rfl rfl Try.func45 (by kernel_rfl) rfl #[.int .i64 a0, .int .i64 x5_1] rfl (by (try simp only [List.map_toArray, List.map_cons, List.map_nil]); first | done | rfl | (simp only [List.length_drop, List.length_take]; rfl)) ?_; (with_reducible refine (malthouseref10_Next.calls k1 a0 x5_1 t189 false _ A5.out).mono ?_); rintro e w' ⟨rfl, ⟨nd, rfl⟩⟩; refine ⟨_, rfl, ?_⟩))
            go_roundg k1
            case measure => have := HK1.out; omega
            case rel => exact ⟨(wrap64 (x5_1 + 1)), (by first | rfl | (simp; done) | (simp [*]; done)), H', ⟨by have := HK1.out; omega⟩, by repeat (first | exact Drawn0.refl _ | apply Drawn0.step)⟩
        · rw [if_neg c4] at H
          have c4b0 : decide (x5_1 < 8) = false := decide_eq_false c4
          clear c4
          replace H := Option.bind_eq_some_iff.mp H
          obtain ⟨⟨t191, t192⟩, A80, H⟩ := H
          replace H : (if t192 = true then (if t191 = a1 then (some true) else ((malthouseref10_Cold.f k1 a0).bind fun t193 => (some (t193 == a1)))) else ((malthouseref10_Cold.f k1 a0).bind fun t194 => (some (t194 == a1)))) = some r := H
          have A8 := Aside0.mk A80
          clear A80
          by_cases c9 : t192 = true
          · subst c9
            have H1 : (if t191 = a1 then (some true) else ((malthouseref10_Cold.f k1 a0).bind fun t193 => (some (t193 == a1)))) = some r := by rw [if_pos rfl] at H; exact H
            clear H
            have H := H1
            clear H1
            by_cases c10 : t191 = a1
            · rw [if_pos c10] at H
              have c10b0 : (t191 == a1) = true := beq_iff_eq.mpr c10
              have c10b1 : (t191 != a1) = false := bne_eq_false_iff_eq.mpr c10
              clear c10
              obtain rfl := Option.some.inj H
              go_wp2_with (first | ((with_reducible refine gate_callee (f := 47) rfl ?_); refine goesL_ (some 31) rfl rfl Try.func47 (by kernel_rfl) rfl #[.int .i64 a0] rfl (by (try simp only [List.map_toArray, List.map_cons, List.map_nil]); first | done | rfl | (simp only [List.length_drop, List.length_take]; rfl)) ?_; (with_reducible refine (malthouseref10_Done.calls a0 t191 true _ A8.out).mono ?_); rintro e w' ⟨rfl, ⟨nd, rfl⟩⟩; refine ⟨_, rfl, ?_⟩))
              go_ret
              exact ⟨by first | rfl | (simp; done) | (simp [*]; done), by repeat (first | exact Drawn0.refl _ | apply Drawn0.step)⟩
            · rw [if_neg c10] at H
              have c10b0 : (t191 == a1) = false := beq_eq_false_iff_ne.mpr c10
              have c10b1 : (t191 != a1) = true := bne_iff_ne.mpr c10
              replace H := Option.bind_eq_some_iff.mp H
              obtain ⟨t193, A110, H⟩ := H
              replace H : (some (t193 == a1)) = some r := H
              have A11 := Aside0.mk A110
              clear A110
              obtain rfl := Option.some.inj H
              go_wp2_with (first | ((with_reducible refine gate_callee (f := 47) rfl ?_); refine goesL_ (some 31) rfl rfl Try.func47 (by kernel_rfl) rfl #[.int .i64 a0] rfl (by (try simp only [List.map_toArray, List.map_cons, List.map_nil]); first | done | rfl | (simp only [List.length_drop, List.length_take]; rfl)) ?_; (with_reducible refine (malthouseref10_Done.calls a0 t191 true _ A8.out).mono ?_); rintro e w' ⟨rfl, ⟨nd, rfl⟩⟩; refine ⟨_, rfl, ?_⟩) | (go_at_call 52; (with_reducible refine (malthouseref10_Cold.calls k1 a0 t193 _ A11.out).mono ?_); rintro e w' ⟨rfl, ⟨nd, rfl⟩⟩))
              go_ret
              exact ⟨by first | rfl | (simp; done) | (simp [*]; done), by repeat (first | exact Drawn0.refl _ | apply Drawn0.step)⟩
          · replace c9 := Bool.eq_false_iff.mpr c9
            subst c9
            have H1 : ((malthouseref10_Cold.f k1 a0).bind fun t194 => (some (t194 == a1))) = some r := by rw [if_neg (show ¬ (false = true) by decide)] at H; exact H
            clear H
            have H := H1
            clear H1
            replace H := Option.bind_eq_some_iff.mp H
            obtain ⟨t194, A120, H⟩ := H
            replace H : (some (t194 == a1)) = some r := H
            have A12 := Aside0.mk A120
            clear A120
            obtain rfl := Option.some.inj H
            go_wp2_with (first | ((with_reducible refine gate_callee (f := 47) rfl ?_); refine goesL_ (some 31) rfl rfl Try.func47 (by kernel_rfl) rfl #[.int .i64 a0] rfl (by (try simp only [List.map_toArray, List.map_cons, List.map_nil]); first | done | rfl | (simp only [List.length_drop, List.length_take]; rfl)) ?_; (with_reducible refine (malthouseref10_Done.calls a0 t191 false _ A8.out).mono ?_); rintro e w' ⟨rfl, ⟨nd, rfl⟩⟩; refine ⟨_, rfl, ?_⟩) | (go_at_call 52; (with_reducible refine (malthouseref10_Cold.calls k1 a0 t194 _ A12.out).mono ?_); rintro e w' ⟨rfl, ⟨nd, rfl⟩⟩))
            go_ret
            exact ⟨by first | rfl | (simp; done) | (simp [*]; done), by repeat (first | exact Drawn0.refl _ | apply Drawn0.step)⟩

end Go.Proofs.Ytnlbmhojjjjpdaa.F
