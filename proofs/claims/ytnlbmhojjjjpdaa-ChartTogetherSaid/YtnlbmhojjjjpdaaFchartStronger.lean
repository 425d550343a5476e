-- written by inject.py (this session's) with the kit's printer. Lean checks it.
import Derived.Test.YtnlbmhojjjjpdaaF0
namespace Go.Proofs.Ytnlbmhojjjjpdaa.F
open Go.RowKit Go.Proofs.YtnlbmhojjjjpdaaW.PrintWords Go.Proofs.YtnlbmhojjjjpdaaW.PrintLast Go.Proofs.YtnlbmhojjjjpdaaW.PrintMore
attribute [local go_sem] max2_int min2_int max_two min_two max_three min_three max_four min_four   -- for this text's walks alone
set_option linter.unusedVariables false
set_option linter.unusedSimpArgs false

/-! ### chart_Stronger: function 38 -/
def chart_Stronger.l0 : Nat → Int → Int → List Int → Int → Int → Option (Int)
  | 0, _, _, _, _, _ => none
  | k + 1, x0, x1, x7, x8, x9 => if x9 < x8 then (if 0 ≤ x9 then (if x9 < (x7.length : Int) then (if x0 = (rd x7 x9) then (some (rd x7 x9)) else (if x1 = (rd x7 x9) then (some (rd x7 x9)) else (chart_Stronger.l0 k x0 x1 x7 x8 (wrap64 (x9 + 1))))) else (none)) else (none)) else (some (-1))
def chart_Stronger.f (k : Nat) (a0 : Int) (a1 : Int) : Option (Int) := (some (([6, 5, 3, 1, 4, 2, 0, 7] : List Int) : List Int)).bind fun y101 => (chart_Stronger.l0 k a0 a1 y101 (y101.length : Int) 0)
theorem chart_Stronger.mono_l : ∀ k, (∀ y0 y1 y2 y3 y4, LeO (chart_Stronger.l0 k y0 y1 y2 y3 y4) (chart_Stronger.l0 (k + 1) y0 y1 y2 y3 y4))
  | 0 => fun _ _ _ _ _ r h => by simp [chart_Stronger.l0] at h
  | k + 1 => by
    have ih0 := chart_Stronger.mono_l k
    · intro y0 y1 y2 y3 y4
      unfold chart_Stronger.l0
      repeat' first
      | (with_reducible exact ih0 _ _ _ _ _)
      | (with_reducible exact LeO.refl _)
      | (with_reducible exact LeO.none _)
      | (with_reducible refine LeO.ite ?_ ?_)
      | (with_reducible refine LeO.bind ?_ (fun _ => ?_))
      | exact ih0 _ _ _ _ _
      | exact LeO.none _
      | refine LeO.ite ?_ ?_
      | refine LeO.bind ?_ (fun _ => ?_)
theorem chart_Stronger.mono : ∀ a0 a1 k, LeO (chart_Stronger.f k a0 a1) (chart_Stronger.f (k + 1) a0 a1) := by
  intro a0 a1 k
  have ih0 := chart_Stronger.mono_l k
  unfold chart_Stronger.f
  repeat' first
      | (with_reducible exact ih0 _ _ _ _ _)
      | (with_reducible exact LeO.refl _)
      | (with_reducible exact LeO.none _)
      | (with_reducible refine LeO.ite ?_ ?_)
      | (with_reducible refine LeO.bind ?_ (fun _ => ?_))
      | exact ih0 _ _ _ _ _
      | exact LeO.none _
      | refine LeO.ite ?_ ?_
      | refine LeO.bind ?_ (fun _ => ?_)
set_option maxHeartbeats 8000000 in
set_option maxRecDepth 100000 in
theorem chart_Stronger.calls (k : Nat) (a0 : Int) (a1 : Int) (r : Int) (w : World) (h : chart_Stronger.f k a0 a1 = some r) :
    Calls Try.prog 38 #[.int .i64 a0, .int .i64 a1] w fun e w' => e = .returned (.int .i64 r) ∧ Below w.heap.size w w' := by
  have HB := Aside0.mk (Below.refl w.heap.size w)
  have H : ((some (([6, 5, 3, 1, 4, 2, 0, 7] : List Int) : List Int)).bind fun y101 => (chart_Stronger.l0 k a0 a1 y101 (y101.length : Int) 0)) = some r := h
  clear h
  obtain ⟨y101, hy101⟩ : ∃ y_ : List Int, y_ = (([6, 5, 3, 1, 4, 2, 0, 7] : List Int)) := ⟨_, rfl⟩
  replace H : (chart_Stronger.l0 k a0 a1 y101 (y101.length : Int) 0) = some r := by first | (rw [hy101]; with_reducible exact H) | (have H2_ := (Option.bind_some _ _).symm.trans H; rw [hy101]; with_reducible exact H2_) | (have H2_ := (Option.bind_some _ _).symm.trans H; with_reducible exact H2_) | with_reducible exact H | (rw [hy101]; exact H) | exact H
  have Ny101 := Aside0.mk hy101
  clear hy101
  have H' := Aside0.mk H
  clear H
  go_enter Try.func38, Try.ntmps38
  go_wp2_with (first | ((with_reducible refine gate_dst (N := 7) rfl ?_); refine Kd.R_lit (Kd.int .i64) _ 3 ?hg (N := 7) ?hd (xs := ([6, 5, 3, 1, 4, 2, 0, 7] : List Int)) (inner := [.int .i64 6, .int .i64 5, .int .i64 3, .int .i64 1, .int .i64 4, .int .i64 2, .int .i64 0, .int .i64 7]) (ok := fun _ => True) (okp := fun _ => True) ?hr ?hp (fun _ hk => hk) trivial (Below.refl _ _) (Nat.le_refl _) (by simp) ?_; (case hd => rfl); (case hg => rfl); (case hr => first | (go_simp; done) | (go_simp; rfl)); (case hp => exact (Reps.one (show Kd.M (Kd.int .i64) _ _ _ 6 [.int .i64 6] from rfl) (Reps.one (show Kd.M (Kd.int .i64) _ _ _ 5 [.int .i64 5] from rfl) (Reps.one (show Kd.M (Kd.int .i64) _ _ _ 3 [.int .i64 3] from rfl) (Reps.one (show Kd.M (Kd.int .i64) _ _ _ 1 [.int .i64 1] from rfl) (Reps.one (show Kd.M (Kd.int .i64) _ _ _ 4 [.int .i64 4] from rfl) (Reps.one (show Kd.M (Kd.int .i64) _ _ _ 2 [.int .i64 2] from rfl) (Reps.one (show Kd.M (Kd.int .i64) _ _ _ 0 [.int .i64 0] from rfl) (Reps.one (show Kd.M (Kd.int .i64) _ _ _ 7 [.int .i64 7] from rfl) (Reps.none _ _)))))))))); intro v102 w3 ho4 hb hg_ hnew_; clear hg_ hnew_; (first | rw [← Ny101.out] at ho4 | (simp only [Int.reduceToNat] at ho4; rw [← Ny101.out] at ho4)); have n0_ := Aside0.mk (Kd.R_lower ho4 (below_size (by repeat (first | (with_reducible first | exact HB.out | apply below_alloc | apply pw_below_drewN | apply below_drew1) | exact HB.out)))); have n1_ := Aside0.mk (below_step (by repeat (first | (with_reducible first | exact HB.out | apply below_alloc | apply pw_below_drewN | apply below_drew1) | exact HB.out)) hb); clear HB; have HO103 := n0_; have HB := n1_; clear n0_ n1_; clear hb ho4; obtain ⟨Ao5, co5, eo5⟩ := Kd.R_slice HO103.out; subst eo5))
  go_loopg [9] k (fun kq v9 w' => ∃ (x9_1 : Int), v9 = .int .i64 x9_1 ∧ Aside0 (chart_Stronger.l0 kq a0 a1 y101 (y101.length : Int) x9_1 = some r) ∧ Aside0 (kq ≤ k) ∧ Aside0 (Kd.R (Kd.int .i64) 3 w' w.heap.size (fun _ => True) (.slice Ao5 y101.length co5) y101) ∧ Aside0 (Below w.heap.size w w'))
  case atStart => exact ⟨(0), (by first | rfl | (simp; done) | (simp [*]; done)), H', ⟨Nat.le_refl _⟩, ⟨by (with_reducible repeat (first | apply Kd.R_alloc | apply Kd.R_drewN | apply Kd.R_drew)); exact HO103.out⟩, ⟨by repeat (first | (with_reducible first | exact HB.out | apply below_alloc | apply pw_below_drewN | apply below_drew1) | exact HB.out)⟩⟩
  case round =>
    clear H'
    try clear p2
    try clear c3
    obtain ⟨x9_1, rfl, HA, HK1, HO_7, HB⟩ := hrel
    cases gk with
    | zero => exact absurd HA.out (by simp [chart_Stronger.l0])
    | succ k1 =>
      have H := HA.out
      clear HA
      simp only [chart_Stronger.l0] at H
      by_cases c6 : x9_1 < (y101.length : Int)
      · rw [if_pos c6] at H
        have c6b0 : decide (x9_1 < (y101.length : Int)) = true := decide_eq_true c6
        clear c6
        by_cases c7 : 0 ≤ x9_1
        · rw [if_pos c7] at H
          have c7b0 : decide (0 ≤ x9_1) = true := decide_eq_true c7
          clear c7
          by_cases c8 : x9_1 < (y101.length : Int)
          · rw [if_pos c8] at H
            have c8b0 : decide (x9_1 < (y101.length : Int)) = true := decide_eq_true c8
            clear c8
            by_cases c9 : a0 = (rd y101 x9_1)
            · rw [if_pos c9] at H
              have c9b0 : (a0 == (rd y101 x9_1)) = true := beq_iff_eq.mpr c9
              have c9b1 : (a0 != (rd y101 x9_1)) = false := bne_eq_false_iff_eq.mpr c9
              clear c9
              obtain rfl := Option.some.inj H
              have p104 : 0 ≤ (x9_1 : Int) := of_decide_eq_true (by first | (with_reducible assumption) | assumption)
              have q104 : x9_1 < (y101.length : Int) := of_decide_eq_true (by first | (with_reducible assumption) | assumption)
              obtain ⟨ad104, e104, hx104_0⟩ := Kd.at_int (Kd.R_reads' HO_7.out).2.2 x9_1 p104 q104
              cases e104
              replace p104 := eq_true p104
              replace q104 := eq_true q104
              go_wp2
              go_ret
              exact ⟨by first | rfl | (simp [errW_none, errW_some] <;> rfl) | (simp [*, errW_none, errW_some] <;> rfl), by repeat (first | (with_reducible first | exact HB.out | apply below_alloc | apply pw_below_drewN | apply below_drew1) | exact HB.out)⟩
            · rw [if_neg c9] at H
              have c9b0 : (a0 == (rd y101 x9_1)) = false := beq_eq_false_iff_ne.mpr c9
              have c9b1 : (a0 != (rd y101 x9_1)) = true := bne_iff_ne.mpr c9
              by_cases c10 : a1 = (rd y101 x9_1)
              · rw [if_pos c10] at H
                have c10b0 : (a1 == (rd y101 x9_1)) = true := beq_iff_eq.mpr c10
                have c10b1 : (a1 != (rd y101 x9_1)) = false := bne_eq_false_iff_eq.mpr c10
                clear c10
                obtain rfl := Option.some.inj H
                have p104 : 0 ≤ (x9_1 : Int) := of_decide_eq_true (by first | (with_reducible assumption) | assumption)
                have q104 : x9_1 < (y101.length : Int) := of_decide_eq_true (by first | (with_reducible assumption) | assumption)
                obtain ⟨ad104, e104, hx104_0⟩ := Kd.at_int (Kd.R_reads' HO_7.out).2.2 x9_1 p104 q104
                cases e104
                replace p104 := eq_true p104
                replace q104 := eq_true q104
                go_wp2
                go_ret
                exact ⟨by first | rfl | (simp [errW_none, errW_some] <;> rfl) | (simp [*, errW_none, errW_some] <;> rfl), by repeat (first | (with_reducible first | exact HB.out | apply below_alloc | apply pw_below_drewN | apply below_drew1) | exact HB.out)⟩
              · rw [if_neg c10] at H
                have c10b0 : (a1 == (rd y101 x9_1)) = false := beq_eq_false_iff_ne.mpr c10
                have c10b1 : (a1 != (rd y101 x9_1)) = true := bne_iff_ne.mpr c10
                have H' := Aside0.mk H
                clear H
                have p104 : 0 ≤ (x9_1 : Int) := of_decide_eq_true (by first | (with_reducible assumption) | assumption)
                have q104 : x9_1 < (y101.length : Int) := of_decide_eq_true (by first | (with_reducible assumption) | assumption)
                obtain ⟨ad104, e104, hx104_0⟩ := Kd.at_int (Kd.R_reads' HO_7.out).2.2 x9_1 p104 q104
                cases e104
                replace p104 := eq_true p104
                replace q104 := eq_true q104
                go_wp2
                go_roundg k1
                case measure => have := HK1.out; omega
                case rel => exact ⟨(wrap64 (x9_1 + 1)), (by first | rfl | (simp; done) | (simp [*]; done)), H', ⟨by have := HK1.out; omega⟩, ⟨by (with_reducible repeat (first | apply Kd.R_alloc | apply Kd.R_drewN | apply Kd.R_drew)); exact HO_7.out⟩, ⟨by repeat (first | (with_reducible first | exact HB.out | apply below_alloc | apply pw_below_drewN | apply below_drew1) | exact HB.out)⟩⟩
          · rw [if_neg c8] at H
            exact absurd H (by simp)
        · rw [if_neg c7] at H
          exact absurd H (by simp)
      · rw [if_neg c6] at H
        have c6b0 : decide (x9_1 < (y101.length : Int)) = false := decide_eq_false c6
        clear c6
        obtain rfl := Option.some.inj H
        go_wp2
        go_ret
        exact ⟨by first | rfl | (simp [errW_none, errW_some] <;> rfl) | (simp [*, errW_none, errW_some] <;> rfl), by repeat (first | (with_reducible first | exact HB.out | apply below_alloc | apply pw_below_drewN | apply below_drew1) | exact HB.out)⟩

end Go.Proofs.Ytnlbmhojjjjpdaa.F
