-- written by inject.py (this session's) with the kit's printer. Lean checks it.
import Derived.Test.YtnlbmhojjjjpdaaF0
import Derived.Test.YtnlbmhojjjjpdaaFchartActing
import Derived.Test.YtnlbmhojjjjpdaaFchartCold
import Derived.Test.YtnlbmhojjjjpdaaFchartDone
import Derived.Test.YtnlbmhojjjjpdaaFchartEdge
import Derived.Test.YtnlbmhojjjjpdaaFchartNext
import Derived.Test.YtnlbmhojjjjpdaaFchartQuiet
import Derived.Test.YtnlbmhojjjjpdaaFmalthouselaw10awake
import Derived.Test.YtnlbmhojjjjpdaaFmalthouseref10Acting
import Derived.Test.YtnlbmhojjjjpdaaFmalthouseref10Cold
import Derived.Test.YtnlbmhojjjjpdaaFmalthouseref10Done
import Derived.Test.YtnlbmhojjjjpdaaFmalthouseref10Edge
import Derived.Test.YtnlbmhojjjjpdaaFmalthouseref10Next
import Derived.Test.YtnlbmhojjjjpdaaFmalthouseref10Quiet
namespace Go.Proofs.Ytnlbmhojjjjpdaa.F
open Go.RowKit Go.Proofs.YtnlbmhojjjjpdaaW.PrintWords Go.Proofs.YtnlbmhojjjjpdaaW.PrintLast Go.Proofs.YtnlbmhojjjjpdaaW.PrintMore
attribute [local go_sem] max2_int min2_int max_two min_two max_three min_three max_four min_four   -- for this text's walks alone
set_option linter.unusedVariables false
set_option linter.unusedSimpArgs false

/-! ### malthouselaw10_ChartLeads: function 12 -/
def malthouselaw10_ChartLeads.j0 : Nat → Int → Int → Bool → Bool → Option (Bool)
  | 0, _, _, _, _ => none
  | k + 1, x0, x2, x7, x56 => if x56 = true then (some false) else (if x7 = true then ((chart_Acting.f x0).bind fun t204 => ((malthouseref10_Acting.f x0).bind fun t205 => (if (t204 == t205) = true then ((chart_Quiet.f x0).bind fun t206 => ((malthouseref10_Quiet.f x0).bind fun t207 => (if (t206 == t207) = true then ((chart_Cold.f x0).bind fun t208 => ((malthouseref10_Cold.f k x0).bind fun t209 => (if t208 = t209 then ((chart_Edge.f k x0 x2).bind fun t210 => ((malthouseref10_Edge.f k x0 x2).bind fun t211 => (some (t210 == t211)))) else (some false)))) else (some false)))) else (some false)))) else (some false))
def malthouselaw10_ChartLeads.f (k : Nat) (a0 : Int) (a1 : Int) (a2 : Int) : Option (Bool) := (malthouselaw10_awake.f k).bind fun t195 => ((chart_Next.f k a0 a1).bind fun bt196 => ((malthouseref10_Next.f k a0 a1).bind fun bt198 => ((chart_Done.f a0).bind fun bt200 => ((malthouseref10_Done.f a0).bind fun bt202 => (if bt196.1 = bt198.1 then (if (bt196.2 != bt198.2) = true then (malthouselaw10_ChartLeads.j0 k a0 a2 t195 true) else (if bt200.1 = bt202.1 then (malthouselaw10_ChartLeads.j0 k a0 a2 t195 (bt200.2 != bt202.2)) else (malthouselaw10_ChartLeads.j0 k a0 a2 t195 true))) else (malthouselaw10_ChartLeads.j0 k a0 a2 t195 true))))))
theorem malthouselaw10_ChartLeads.mono_l : ∀ k, (∀ y0 y1 y2 y3, LeO (malthouselaw10_ChartLeads.j0 k y0 y1 y2 y3) (malthouselaw10_ChartLeads.j0 (k + 1) y0 y1 y2 y3))
  | 0 => fun _ _ _ _ r h => by simp [malthouselaw10_ChartLeads.j0] at h
  | k + 1 => by
    have ih0 := malthouselaw10_ChartLeads.mono_l k
    · intro y0 y1 y2 y3
      unfold malthouselaw10_ChartLeads.j0
      repeat' first
      | (with_reducible exact ih0 _ _ _ _)
      | (with_reducible exact chart_Edge.mono _ _ _)
      | (with_reducible exact chart_Next.mono _ _ _)
      | (with_reducible exact malthouselaw10_awake.mono _)
      | (with_reducible exact malthouseref10_Cold.mono _ _)
      | (with_reducible exact malthouseref10_Edge.mono _ _ _)
      | (with_reducible exact malthouseref10_Next.mono _ _ _)
      | (with_reducible exact LeO.refl _)
      | (with_reducible exact LeO.none _)
      | (with_reducible refine LeO.ite ?_ ?_)
      | (with_reducible refine LeO.bind ?_ (fun _ => ?_))
      | exact ih0 _ _ _ _
      | exact chart_Edge.mono _ _ _
      | exact chart_Next.mono _ _ _
      | exact malthouselaw10_awake.mono _
      | exact malthouseref10_Cold.mono _ _
      | exact malthouseref10_Edge.mono _ _ _
      | exact malthouseref10_Next.mono _ _ _
      | exact LeO.none _
      | refine LeO.ite ?_ ?_
      | refine LeO.bind ?_ (fun _ => ?_)
theorem malthouselaw10_ChartLeads.mono : ∀ a0 a1 a2 k, LeO (malthouselaw10_ChartLeads.f k a0 a1 a2) (malthouselaw10_ChartLeads.f (k + 1) a0 a1 a2) := by
  intro a0 a1 a2 k
  have ih0 := malthouselaw10_ChartLeads.mono_l k
  unfold malthouselaw10_ChartLeads.f
  repeat' first
      | (with_reducible exact ih0 _ _ _ _)
      | (with_reducible exact chart_Edge.mono _ _ _)
      | (with_reducible exact chart_Next.mono _ _ _)
      | (with_reducible exact malthouselaw10_awake.mono _)
      | (with_reducible exact malthouseref10_Cold.mono _ _)
      | (with_reducible exact malthouseref10_Edge.mono _ _ _)
      | (with_reducible exact malthouseref10_Next.mono _ _ _)
      | (with_reducible exact LeO.refl _)
      | (with_reducible exact LeO.none _)
      | (with_reducible refine LeO.ite ?_ ?_)
      | (with_reducible refine LeO.bind ?_ (fun _ => ?_))
      | exact ih0 _ _ _ _
      | exact chart_Edge.mono _ _ _
      | exact chart_Next.mono _ _ _
      | exact malthouselaw10_awake.mono _
      | exact malthouseref10_Cold.mono _ _
      | exact malthouseref10_Edge.mono _ _ _
      | exact malthouseref10_Next.mono _ _ _
      | exact LeO.none _
      | refine LeO.ite ?_ ?_
      | refine LeO.bind ?_ (fun _ => ?_)
set_option maxHeartbeats 8000000 in
set_option maxRecDepth 100000 in
theorem malthouselaw10_ChartLeads.calls (k : Nat) (a0 : Int) (a1 : Int) (a2 : Int) (r : Bool) (w : World) (h : malthouselaw10_ChartLeads.f k a0 a1 a2 = some r) :
    Calls Try.prog 12 #[.int .i64 a0, .int .i64 a1, .int .i64 a2] w fun e w' => e = .returned (.bool r) ∧ Below w.heap.size w w' := by
  have HB := Aside0.mk (Below.refl w.heap.size w)
  have H : ((malthouselaw10_awake.f k).bind fun t195 => ((chart_Next.f k a0 a1).bind fun bt196 => ((malthouseref10_Next.f k a0 a1).bind fun bt198 => ((chart_Done.f a0).bind fun bt200 => ((malthouseref10_Done.f a0).bind fun bt202 => (if bt196.1 = bt198.1 then (if (bt196.2 != bt198.2) = true then (malthouselaw10_ChartLeads.j0 k a0 a2 t195 true) else (if bt200.1 = bt202.1 then (malthouselaw10_ChartLeads.j0 k a0 a2 t195 (bt200.2 != bt202.2)) else (malthouselaw10_ChartLeads.j0 k a0 a2 t195 true))) else (malthouselaw10_ChartLeads.j0 k a0 a2 t195 true))))))) = some r := h
  clear h
  replace H := Option.bind_eq_some_iff.mp H
  obtain ⟨t195, A40, H⟩ := H
  replace H : ((chart_Next.f k a0 a1).bind fun bt196 => ((malthouseref10_Next.f k a0 a1).bind fun bt198 => ((chart_Done.f a0).bind fun bt200 => ((malthouseref10_Done.f a0).bind fun bt202 => (if bt196.1 = bt198.1 then (if (bt196.2 != bt198.2) = true then (malthouselaw10_ChartLeads.j0 k a0 a2 t195 true) else (if bt200.1 = bt202.1 then (malthouselaw10_ChartLeads.j0 k a0 a2 t195 (bt200.2 != bt202.2)) else (malthouselaw10_ChartLeads.j0 k a0 a2 t195 true))) else (malthouselaw10_ChartLeads.j0 k a0 a2 t195 true)))))) = some r := H
  have A4 := Aside0.mk A40
  clear A40
  replace H := Option.bind_eq_some_iff.mp H
  obtain ⟨⟨t196, t197⟩, A50, H⟩ := H
  replace H : ((malthouseref10_Next.f k a0 a1).bind fun bt198 => ((chart_Done.f a0).bind fun bt200 => ((malthouseref10_Done.f a0).bind fun bt202 => (if t196 = bt198.1 then (if (t197 != bt198.2) = true then (malthouselaw10_ChartLeads.j0 k a0 a2 t195 true) else (if bt200.1 = bt202.1 then (malthouselaw10_ChartLeads.j0 k a0 a2 t195 (bt200.2 != bt202.2)) else (malthouselaw10_ChartLeads.j0 k a0 a2 t195 true))) else (malthouselaw10_ChartLeads.j0 k a0 a2 t195 true))))) = some r := H
  have A5 := Aside0.mk A50
  clear A50
  replace H := Option.bind_eq_some_iff.mp H
  obtain ⟨⟨t198, t199⟩, A60, H⟩ := H
  replace H : ((chart_Done.f a0).bind fun bt200 => ((malthouseref10_Done.f a0).bind fun bt202 => (if t196 = t198 then (if (t197 != t199) = true then (malthouselaw10_ChartLeads.j0 k a0 a2 t195 true) else (if bt200.1 = bt202.1 then (malthouselaw10_ChartLeads.j0 k a0 a2 t195 (bt200.2 != bt202.2)) else (malthouselaw10_ChartLeads.j0 k a0 a2 t195 true))) else (malthouselaw10_ChartLeads.j0 k a0 a2 t195 true)))) = some r := H
  have A6 := Aside0.mk A60
  clear A60
  replace H := Option.bind_eq_some_iff.mp H
  obtain ⟨⟨t200, t201⟩, A70, H⟩ := H
  replace H : ((malthouseref10_Done.f a0).bind fun bt202 => (if t196 = t198 then (if (t197 != t199) = true then (malthouselaw10_ChartLeads.j0 k a0 a2 t195 true) else (if t200 = bt202.1 then (malthouselaw10_ChartLeads.j0 k a0 a2 t195 (t201 != bt202.2)) else (malthouselaw10_ChartLeads.j0 k a0 a2 t195 true))) else (malthouselaw10_ChartLeads.j0 k a0 a2 t195 true))) = some r := H
  have A7 := Aside0.mk A70
  clear A70
  replace H := Option.bind_eq_some_iff.mp H
  obtain ⟨⟨t202, t203⟩, A80, H⟩ := H
  replace H : (if t196 = t198 then (if (t197 != t199) = true then (malthouselaw10_ChartLeads.j0 k a0 a2 t195 true) else (if t200 = t202 then (malthouselaw10_ChartLeads.j0 k a0 a2 t195 (t201 != t203)) else (malthouselaw10_ChartLeads.j0 k a0 a2 t195 true))) else (malthouselaw10_ChartLeads.j0 k a0 a2 t195 true)) = some r := H
  have A8 := Aside0.mk A80
  clear A80
  have HC9 := Aside0.mk H
  clear H
  go_enter Try.func12, Try.ntmps12
  go_upto_region 6 with (first | ((with_reducible refine gate_callee (f := 34) rfl ?_); refine goesL_ (some 16) rfl rfl Try.func34 (by kernel_rfl) rfl #[] rfl (by (try simp only [List.map_toArray, List.map_cons, List.map_nil]); first | done | rfl | (simp only [List.length_drop, List.length_take]; rfl)) ?_; (with_reducible refine (malthouselaw10_awake.calls k  t195 _ A4.out).mono ?_); rintro e w10 ⟨rfl, hb⟩; refine ⟨_, rfl, ?_⟩; have n0_ := Aside0.mk (below_step (by repeat (first | (with_reducible first | exact HB.out | apply below_alloc | apply pw_below_drewN | apply below_drew1) | exact HB.out)) hb); clear HB; have HB := n0_; clear n0_; (try clear hb); (try clear hb2); (try clear hk); (try clear hi)) | ((with_reducible refine gate_callee (f := 44) rfl ?_); refine goesL_ (some 20) rfl rfl Try.func44 (by kernel_rfl) rfl #[.int .i64 a0, .int .i64 a1] rfl (by (try simp only [List.map_toArray, List.map_cons, List.map_nil]); first | done | rfl | (simp only [List.length_drop, List.length_take]; rfl)) ?_; (with_reducible refine (chart_Next.calls k a0 a1 t196 t197 _ A5.out).mono ?_); rintro e w11 ⟨rfl, hb⟩; refine ⟨_, rfl, ?_⟩; have n0_ := Aside0.mk (below_step (by repeat (first | (with_reducible first | exact HB.out | apply below_alloc | apply pw_below_drewN | apply below_drew1) | exact HB.out)) hb); clear HB; have HB := n0_; clear n0_; (try clear hb); (try clear hb2); (try clear hk); (try clear hi)) | ((with_reducible refine gate_callee (f := 45) rfl ?_); refine goesL_ (some 26) rfl rfl Try.func45 (by kernel_rfl) rfl #[.int .i64 a0, .int .i64 a1] rfl (by (try simp only [List.map_toArray, List.map_cons, List.map_nil]); first | done | rfl | (simp only [List.length_drop, List.length_take]; rfl)) ?_; (with_reducible refine (malthouseref10_Next.calls k a0 a1 t198 t199 _ A6.out).mono ?_); rintro e w' ⟨rfl, ⟨nd, rfl⟩⟩; refine ⟨_, rfl, ?_⟩) | ((with_reducible refine gate_callee (f := 46) rfl ?_); refine goesL_ (some 31) rfl rfl Try.func46 (by kernel_rfl) rfl #[.int .i64 a0] rfl (by (try simp only [List.map_toArray, List.map_cons, List.map_nil]); first | done | rfl | (simp only [List.length_drop, List.length_take]; rfl)) ?_; (with_reducible refine (chart_Done.calls a0 t200 t201 _ A7.out).mono ?_); rintro e w' ⟨rfl, ⟨nd, rfl⟩⟩; refine ⟨_, rfl, ?_⟩) | ((with_reducible refine gate_callee (f := 47) rfl ?_); refine goesL_ (some 36) rfl rfl Try.func47 (by kernel_rfl) rfl #[.int .i64 a0] rfl (by (try simp only [List.map_toArray, List.map_cons, List.map_nil]); first | done | rfl | (simp only [List.length_drop, List.length_take]; rfl)) ?_; (with_reducible refine (malthouseref10_Done.calls a0 t202 t203 _ A8.out).mono ?_); rintro e w' ⟨rfl, ⟨nd, rfl⟩⟩; refine ⟨_, rfl, ?_⟩))
  (try simp only [Act.put, List.setIfInBounds_toArray, List.set_cons_zero, List.set_cons_succ])
  go_cut [56] (fun v56 wc => ∃ (kq : Nat) (x56_8 : Bool), v56 = .bool x56_8 ∧ Aside0 (malthouselaw10_ChartLeads.j0 kq a0 a2 t195 x56_8 = some r) ∧ Aside0 (kq ≤ k) ∧ Aside0 (Below w.heap.size w wc))
  case first =>
    have H := HC9.out
    clear HC9
    by_cases c12 : t196 = t198
    · rw [if_pos c12] at H
      have c12b0 : (t196 == t198) = true := beq_iff_eq.mpr c12
      have c12b1 : (t196 != t198) = false := bne_eq_false_iff_eq.mpr c12
      clear c12
      (first | rw [c12b0] | (simp only [i64_w, i32_w]; rw [c12b0]) | skip)
      by_cases c13 : (t197 != t199) = true
      · rw [if_pos c13] at H
        have c13b0 : (t197 != t199) = true := c13
        (try (have c13b1 : decide (t197 = t199) = false := by simpa using c13))
        (try (have c13b2 : (t197 == t199) = false := by simpa using c13))
        (try (have c13b3 : ¬ (t197 = t199) := by simpa using c13))
        clear c13
        have H' := Aside0.mk H
        clear H
        go_wp2
        go_meet
        case rel => exact ⟨_, (true), (by first | rfl | (simp; done) | (simp [*]; done)), H', ⟨by first | omega | exact Nat.le_refl _⟩, ⟨by repeat (first | (with_reducible first | exact HB.out | apply below_alloc | apply pw_below_drewN | apply below_drew1) | exact HB.out)⟩⟩
      · rw [if_neg c13] at H
        have c13b0 : (t197 != t199) = false := by simpa using c13
        (try (have c13b1 : decide (t197 = t199) = true := by simpa using c13))
        (try (have c13b2 : (t197 == t199) = true := by simpa using c13))
        clear c13
        by_cases c14 : t200 = t202
        · rw [if_pos c14] at H
          have c14b0 : (t200 == t202) = true := beq_iff_eq.mpr c14
          have c14b1 : (t200 != t202) = false := bne_eq_false_iff_eq.mpr c14
          clear c14
          have H' := Aside0.mk H
          clear H
          go_wp2
          go_meet
          case rel => exact ⟨_, ((t201 != t203)), (by first | rfl | (simp; done) | (simp [*]; done)), H', ⟨by first | omega | exact Nat.le_refl _⟩, ⟨by repeat (first | (with_reducible first | exact HB.out | apply below_alloc | apply pw_below_drewN | apply below_drew1) | exact HB.out)⟩⟩
        · rw [if_neg c14] at H
          have c14b0 : (t200 == t202) = false := beq_eq_false_iff_ne.mpr c14
          have c14b1 : (t200 != t202) = true := bne_iff_ne.mpr c14
          have H' := Aside0.mk H
          clear H
          go_wp2
          go_meet
          case rel => exact ⟨_, (true), (by first | rfl | (simp; done) | (simp [*]; done)), H', ⟨by first | omega | exact Nat.le_refl _⟩, ⟨by repeat (first | (with_reducible first | exact HB.out | apply below_alloc | apply pw_below_drewN | apply below_drew1) | exact HB.out)⟩⟩
    · rw [if_neg c12] at H
      have c12b0 : (t196 == t198) = false := beq_eq_false_iff_ne.mpr c12
      have c12b1 : (t196 != t198) = true := bne_iff_ne.mpr c12
      (first | rw [c12b0] | (simp only [i64_w, i32_w]; rw [c12b0]) | skip)
      have H' := Aside0.mk H
      clear H
      go_wp2
      go_meet
      case rel => exact ⟨_, (true), (by first | rfl | (simp; done) | (simp [*]; done)), H', ⟨by first | omega | exact Nat.le_refl _⟩, ⟨by repeat (first | (with_reducible first | exact HB.out | apply below_alloc | apply pw_below_drewN | apply below_drew1) | exact HB.out)⟩⟩
  case rest =>
    clear HC9
    try clear c1
    try clear p2
    try clear c3
    try clear c4
    try clear c12
    try clear c12b0
    try clear c12b1
    try clear c13
    try clear c13b0
    try clear c13b1
    try clear c13b2
    try clear c14
    try clear c14b0
    try clear c14b1
    obtain ⟨kq, x56_8, rfl, HA, HJ8, HB⟩ := hcut
    cases kq with
    | zero => exact absurd HA.out (by simp [malthouselaw10_ChartLeads.j0])
    | succ kj8 =>
      have H := HA.out
      clear HA
      simp only [malthouselaw10_ChartLeads.j0] at H
      by_cases c15 : x56_8 = true
      · subst c15
        have H1 : (some false) = some r := by rw [if_pos rfl] at H; exact H
        clear H
        have H := H1
        clear H1
        obtain rfl := Option.some.inj H
        go_wp2
        go_ret
        exact ⟨by first | rfl | (simp [errW_none, errW_some] <;> rfl) | (simp [*, errW_none, errW_some] <;> rfl), by repeat (first | (with_reducible first | exact HB.out | apply below_alloc | apply pw_below_drewN | apply below_drew1) | exact HB.out)⟩
      · replace c15 := Bool.eq_false_iff.mpr c15
        subst c15
        have H1 : (if t195 = true then ((chart_Acting.f a0).bind fun t204 => ((malthouseref10_Acting.f a0).bind fun t205 => (if (t204 == t205) = true then ((chart_Quiet.f a0).bind fun t206 => ((malthouseref10_Quiet.f a0).bind fun t207 => (if (t206 == t207) = true then ((chart_Cold.f a0).bind fun t208 => ((malthouseref10_Cold.f kj8 a0).bind fun t209 => (if t208 = t209 then ((chart_Edge.f kj8 a0 a2).bind fun t210 => ((malthouseref10_Edge.f kj8 a0 a2).bind fun t211 => (some (t210 == t211)))) else (some false)))) else (some false)))) else (some false)))) else (some false)) = some r := by rw [if_neg (show ¬ (false = true) by decide)] at H; exact H
        clear H
        have H := H1
        clear H1
        by_cases c16 : t195 = true
        · subst c16
          have H1 : ((chart_Acting.f a0).bind fun t204 => ((malthouseref10_Acting.f a0).bind fun t205 => (if (t204 == t205) = true then ((chart_Quiet.f a0).bind fun t206 => ((malthouseref10_Quiet.f a0).bind fun t207 => (if (t206 == t207) = true then ((chart_Cold.f a0).bind fun t208 => ((malthouseref10_Cold.f kj8 a0).bind fun t209 => (if t208 = t209 then ((chart_Edge.f kj8 a0 a2).bind fun t210 => ((malthouseref10_Edge.f kj8 a0 a2).bind fun t211 => (some (t210 == t211)))) else (some false)))) else (some false)))) else (some false)))) = some r := by rw [if_pos rfl] at H; exact H
          clear H
          have H := H1
          clear H1
          replace H := Option.bind_eq_some_iff.mp H
          obtain ⟨t204, A170, H⟩ := H
          replace H : ((malthouseref10_Acting.f a0).bind fun t205 => (if (t204 == t205) = true then ((chart_Quiet.f a0).bind fun t206 => ((malthouseref10_Quiet.f a0).bind fun t207 => (if (t206 == t207) = true then ((chart_Cold.f a0).bind fun t208 => ((malthouseref10_Cold.f kj8 a0).bind fun t209 => (if t208 = t209 then ((chart_Edge.f kj8 a0 a2).bind fun t210 => ((malthouseref10_Edge.f kj8 a0 a2).bind fun t211 => (some (t210 == t211)))) else (some false)))) else (some false)))) else (some false))) = some r := H
          have A17 := Aside0.mk A170
          clear A170
          replace H := Option.bind_eq_some_iff.mp H
          obtain ⟨t205, A180, H⟩ := H
          replace H : (if (t204 == t205) = true then ((chart_Quiet.f a0).bind fun t206 => ((malthouseref10_Quiet.f a0).bind fun t207 => (if (t206 == t207) = true then ((chart_Cold.f a0).bind fun t208 => ((malthouseref10_Cold.f kj8 a0).bind fun t209 => (if t208 = t209 then ((chart_Edge.f kj8 a0 a2).bind fun t210 => ((malthouseref10_Edge.f kj8 a0 a2).bind fun t211 => (some (t210 == t211)))) else (some false)))) else (some false)))) else (some false)) = some r := H
          have A18 := Aside0.mk A180
          clear A180
          by_cases c19 : (t204 == t205) = true
          · rw [if_pos c19] at H
            have c19b0 : (t204 == t205) = true := c19
            (try (have c19b1 : decide (t204 = t205) = true := by simpa using c19))
            (try (have c19b2 : (t204 == t205) = true := by simpa using c19))
            clear c19
            replace H := Option.bind_eq_some_iff.mp H
            obtain ⟨t206, A200, H⟩ := H
            replace H : ((malthouseref10_Quiet.f a0).bind fun t207 => (if (t206 == t207) = true then ((chart_Cold.f a0).bind fun t208 => ((malthouseref10_Cold.f kj8 a0).bind fun t209 => (if t208 = t209 then ((chart_Edge.f kj8 a0 a2).bind fun t210 => ((malthouseref10_Edge.f kj8 a0 a2).bind fun t211 => (some (t210 == t211)))) else (some false)))) else (some false))) = some r := H
            have A20 := Aside0.mk A200
            clear A200
            replace H := Option.bind_eq_some_iff.mp H
            obtain ⟨t207, A210, H⟩ := H
            replace H : (if (t206 == t207) = true then ((chart_Cold.f a0).bind fun t208 => ((malthouseref10_Cold.f kj8 a0).bind fun t209 => (if t208 = t209 then ((chart_Edge.f kj8 a0 a2).bind fun t210 => ((malthouseref10_Edge.f kj8 a0 a2).bind fun t211 => (some (t210 == t211)))) else (some false)))) else (some false)) = some r := H
            have A21 := Aside0.mk A210
            clear A210
            by_cases c22 : (t206 == t207) = true
            · rw [if_pos c22] at H
              have c22b0 : (t206 == t207) = true := c22
              (try (have c22b1 : decide (t206 = t207) = true := by simpa using c22))
              (try (have c22b2 : (t206 == t207) = true := by simpa using c22))
              clear c22
              replace H := Option.bind_eq_some_iff.mp H
              obtain ⟨t208, A230, H⟩ := H
              replace H : ((malthouseref10_Cold.f kj8 a0).bind fun t209 => (if t208 = t209 then ((chart_Edge.f kj8 a0 a2).bind fun t210 => ((malthouseref10_Edge.f kj8 a0 a2).bind fun t211 => (some (t210 == t211)))) else (some false))) = some r := H
              have A23 := Aside0.mk A230
              clear A230
              replace H := Option.bind_eq_some_iff.mp H
              obtain ⟨t209, A240, H⟩ := H
              replace H : (if t208 = t209 then ((chart_Edge.f kj8 a0 a2).bind fun t210 => ((malthouseref10_Edge.f kj8 a0 a2).bind fun t211 => (some (t210 == t211)))) else (some false)) = some r := H
              have A24 := Aside0.mk A240
              clear A240
              by_cases c25 : t208 = t209
              · rw [if_pos c25] at H
                have c25b0 : (t208 == t209) = true := beq_iff_eq.mpr c25
                have c25b1 : (t208 != t209) = false := bne_eq_false_iff_eq.mpr c25
                clear c25
                replace H := Option.bind_eq_some_iff.mp H
                obtain ⟨t210, A260, H⟩ := H
                replace H : ((malthouseref10_Edge.f kj8 a0 a2).bind fun t211 => (some (t210 == t211))) = some r := H
                have A26 := Aside0.mk A260
                clear A260
                replace H := Option.bind_eq_some_iff.mp H
                obtain ⟨t211, A270, H⟩ := H
                replace H : (some (t210 == t211)) = some r := H
                have A27 := Aside0.mk A270
                clear A270
                obtain rfl := Option.some.inj H
                go_wp2_with (first | (go_at_call 37; (with_reducible refine (chart_Acting.calls a0 t204 _ A17.out).mono ?_); rintro e w' ⟨rfl, ⟨nd, rfl⟩⟩) | (go_at_call 48; (with_reducible refine (malthouseref10_Acting.calls a0 t205 _ A18.out).mono ?_); rintro e w' ⟨rfl, ⟨nd, rfl⟩⟩) | (go_at_call 49; (with_reducible refine (chart_Quiet.calls a0 t206 _ A20.out).mono ?_); rintro e w' ⟨rfl, ⟨nd, rfl⟩⟩) | (go_at_call 50; (with_reducible refine (malthouseref10_Quiet.calls a0 t207 _ A21.out).mono ?_); rintro e w' ⟨rfl, ⟨nd, rfl⟩⟩) | (go_at_call 51; (with_reducible refine (chart_Cold.calls a0 t208 _ A23.out).mono ?_); rintro e w' ⟨rfl, ⟨nd, rfl⟩⟩) | (go_at_call 52; (with_reducible refine (malthouseref10_Cold.calls kj8 a0 t209 _ A24.out).mono ?_); rintro e w' ⟨rfl, ⟨nd, rfl⟩⟩) | (go_at_call 53; (with_reducible refine (chart_Edge.calls kj8 a0 a2 t210 _ A26.out).mono ?_); rintro e w28 ⟨rfl, hb⟩; have n0_ := Aside0.mk (below_step (by repeat (first | (with_reducible first | exact HB.out | apply below_alloc | apply pw_below_drewN | apply below_drew1) | exact HB.out)) hb); clear HB; have HB := n0_; clear n0_; (try clear hb); (try clear hb2); (try clear hk); (try clear hi)) | (go_at_call 54; (with_reducible refine (malthouseref10_Edge.calls kj8 a0 a2 t211 _ A27.out).mono ?_); rintro e w' ⟨rfl, ⟨nd, rfl⟩⟩))
                go_ret
                exact ⟨by first | rfl | (simp [errW_none, errW_some] <;> rfl) | (simp [*, errW_none, errW_some] <;> rfl), by repeat (first | (with_reducible first | exact HB.out | apply below_alloc | apply pw_below_drewN | apply below_drew1) | exact HB.out)⟩
              · rw [if_neg c25] at H
                have c25b0 : (t208 == t209) = false := beq_eq_false_iff_ne.mpr c25
                have c25b1 : (t208 != t209) = true := bne_iff_ne.mpr c25
                obtain rfl := Option.some.inj H
                go_wp2_with (first | (go_at_call 37; (with_reducible refine (chart_Acting.calls a0 t204 _ A17.out).mono ?_); rintro e w' ⟨rfl, ⟨nd, rfl⟩⟩) | (go_at_call 48; (with_reducible refine (malthouseref10_Acting.calls a0 t205 _ A18.out).mono ?_); rintro e w' ⟨rfl, ⟨nd, rfl⟩⟩) | (go_at_call 49; (with_reducible refine (chart_Quiet.calls a0 t206 _ A20.out).mono ?_); rintro e w' ⟨rfl, ⟨nd, rfl⟩⟩) | (go_at_call 50; (with_reducible refine (malthouseref10_Quiet.calls a0 t207 _ A21.out).mono ?_); rintro e w' ⟨rfl, ⟨nd, rfl⟩⟩) | (go_at_call 51; (with_reducible refine (chart_Cold.calls a0 t208 _ A23.out).mono ?_); rintro e w' ⟨rfl, ⟨nd, rfl⟩⟩) | (go_at_call 52; (with_reducible refine (malthouseref10_Cold.calls kj8 a0 t209 _ A24.out).mono ?_); rintro e w' ⟨rfl, ⟨nd, rfl⟩⟩))
                go_ret
                exact ⟨by first | rfl | (simp [errW_none, errW_some] <;> rfl) | (simp [*, errW_none, errW_some] <;> rfl), by repeat (first | (with_reducible first | exact HB.out | apply below_alloc | apply pw_below_drewN | apply below_drew1) | exact HB.out)⟩
            · rw [if_neg c22] at H
              have c22b0 : (t206 == t207) = false := by simpa using c22
              (try (have c22b1 : decide (t206 = t207) = false := by simpa using c22))
              (try (have c22b2 : (t206 == t207) = false := by simpa using c22))
              (try (have c22b3 : ¬ (t206 = t207) := by simpa using c22))
              clear c22
              obtain rfl := Option.some.inj H
              go_wp2_with (first | (go_at_call 37; (with_reducible refine (chart_Acting.calls a0 t204 _ A17.out).mono ?_); rintro e w' ⟨rfl, ⟨nd, rfl⟩⟩) | (go_at_call 48; (with_reducible refine (malthouseref10_Acting.calls a0 t205 _ A18.out).mono ?_); rintro e w' ⟨rfl, ⟨nd, rfl⟩⟩) | (go_at_call 49; (with_reducible refine (chart_Quiet.calls a0 t206 _ A20.out).mono ?_); rintro e w' ⟨rfl, ⟨nd, rfl⟩⟩) | (go_at_call 50; (with_reducible refine (malthouseref10_Quiet.calls a0 t207 _ A21.out).mono ?_); rintro e w' ⟨rfl, ⟨nd, rfl⟩⟩))
              go_ret
              exact ⟨by first | rfl | (simp [errW_none, errW_some] <;> rfl) | (simp [*, errW_none, errW_some] <;> rfl), by repeat (first | (with_reducible first | exact HB.out | apply below_alloc | apply pw_below_drewN | apply below_drew1) | exact HB.out)⟩
          · rw [if_neg c19] at H
            have c19b0 : (t204 == t205) = false := by simpa using c19
            (try (have c19b1 : decide (t204 = t205) = false := by simpa using c19))
            (try (have c19b2 : (t204 == t205) = false := by simpa using c19))
            (try (have c19b3 : ¬ (t204 = t205) := by simpa using c19))
            clear c19
            obtain rfl := Option.some.inj H
            go_wp2_with (first | (go_at_call 37; (with_reducible refine (chart_Acting.calls a0 t204 _ A17.out).mono ?_); rintro e w' ⟨rfl, ⟨nd, rfl⟩⟩) | (go_at_call 48; (with_reducible refine (malthouseref10_Acting.calls a0 t205 _ A18.out).mono ?_); rintro e w' ⟨rfl, ⟨nd, rfl⟩⟩))
            go_ret
            exact ⟨by first | rfl | (simp [errW_none, errW_some] <;> rfl) | (simp [*, errW_none, errW_some] <;> rfl), by repeat (first | (with_reducible first | exact HB.out | apply below_alloc | apply pw_below_drewN | apply below_drew1) | exact HB.out)⟩
        · replace c16 := Bool.eq_false_iff.mpr c16
          subst c16
          have H1 : (some false) = some r := by rw [if_neg (show ¬ (false = true) by decide)] at H; exact H
          clear H
          have H := H1
          clear H1
          obtain rfl := Option.some.inj H
          go_wp2
          go_ret
          exact ⟨by first | rfl | (simp [errW_none, errW_some] <;> rfl) | (simp [*, errW_none, errW_some] <;> rfl), by repeat (first | (with_reducible first | exact HB.out | apply below_alloc | apply pw_below_drewN | apply below_drew1) | exact HB.out)⟩

/-- THE ONE PURE STATEMENT of malthouselaw10_ChartLeads: yours. -/
def malthouselaw10_ChartLeads.Pure : Prop := ∀ (a0 : Int) (a1 : Int) (a2 : Int), (Lit.int .i64 a0).wf = true → (Lit.int .i64 a1).wf = true → (Lit.int .i64 a2).wf = true → ∃ k, malthouselaw10_ChartLeads.f k a0 a1 a2 = some true
theorem malthouselaw10_ChartLeads.walk (P : malthouselaw10_ChartLeads.Pure) (a0 : Int) (a1 : Int) (a2 : Int) (w : World) (w0 : (Lit.int .i64 a0).wf = true) (w1 : (Lit.int .i64 a1).wf = true) (w2 : (Lit.int .i64 a2).wf = true) :
    Calls Try.prog 12 #[.int .i64 a0, .int .i64 a1, .int .i64 a2] w fun e w' => e = .returned (.bool true) ∧ Below w.heap.size w w' := by
  obtain ⟨k, h⟩ := P a0 a1 a2 w0 w1 w2
  refine (malthouselaw10_ChartLeads.calls k a0 a1 a2 true w h).mono ?_
  rintro e w' ⟨rfl, hd⟩
  exact ⟨rfl, hd⟩

end Go.Proofs.Ytnlbmhojjjjpdaa.F
