/- Texts of one claim, slimmed and merged by slim.py. -/
import Derived.Test.YtiaccdaeomaogaaDoorA4
import Derived.Test.YtiaccdaeomaogaaDoorA19
namespace Go.Proofs.YtiaccdaeomaogaaDoor.F
open Go.RowKit Go.Proofs.YtiaccdaeomaogaaDoorW.PrintWords Go.Proofs.YtiaccdaeomaogaaDoorW.PrintLast Go.Proofs.YtiaccdaeomaogaaDoorW.PrintMore
attribute [local go_sem] max2_int min2_int max_two min_two max_three min_three max_four min_four   -- for this text's walks alone
set_option linter.unusedVariables false
set_option linter.unusedSimpArgs false
def chart_busy.f (a0 : Int) : Option (Bool) := if a0 ≥ 1 then (some (decide (a0 ≤ 6))) else (some false)
set_option maxHeartbeats 8000000 in
set_option maxRecDepth 100000 in
theorem chart_busy.calls (a0 : Int) (r : Bool) (w : World) (h : chart_busy.f a0 = some r) :
  Calls Tryd.prog 115 #[.int .i64 a0] w fun e w' => e = .returned (.bool r) ∧ Drawn0 w w' := by
 have H : (if a0 ≥ 1 then (some (decide (a0 ≤ 6))) else (some false)) = some r := h
 clear h
 by_cases c2 : a0 ≥ 1
 ·rw [if_pos c2] at H
  have c2b0 : decide (1 ≤ a0) = true := decide_eq_true c2
  clear c2
  obtain rfl := Option.some.inj H
  go_enter Tryd.func115, Tryd.ntmps115
  go_wp2
  go_ret
  exact ⟨by first | rfl | (simp; done) | (simp [*]; done), by repeat (first | exact Drawn0.refl _ | apply Drawn0.step)⟩
 rw [if_neg c2] at H
 have c2b0 : decide (1 ≤ a0) = false := decide_eq_false c2
 clear c2
 obtain rfl := Option.some.inj H
 go_enter Tryd.func115, Tryd.ntmps115
 go_wp2
 go_ret
 exact ⟨by first | rfl | (simp; done) | (simp [*]; done), by repeat (first | exact Drawn0.refl _ | apply Drawn0.step)⟩
def chart_leads.f  : Option ((List (S162))) := some (([(⟨0, 0, 1⟩ : S162), (⟨1, 1, 2⟩ : S162), (⟨2, 3, 1⟩ : S162), (⟨4, 5, 6⟩ : S162), (⟨3, 1, 4⟩ : S162), (⟨3, 2, 4⟩ : S162), (⟨3, 3, 4⟩ : S162), (⟨3, 6, 4⟩ : S162), (⟨6, 7, 9⟩ : S162), (⟨7, 8, 0⟩ : S162), (⟨7, 10, 0⟩ : S162), (⟨7, 11, 0⟩ : S162)] : List (S162)))
set_option maxHeartbeats 8000000 in
set_option maxRecDepth 100000 in
theorem chart_leads.calls  (r : List (S162)) (w : World) (h : chart_leads.f  = some r) :
    Calls Tryd.prog 116 #[] w fun e w' => ∃ v0_ : Value, e = .returned (v0_) ∧ Kd.R k162 162 w' w.heap.size (fun _ => True) v0_ r ∧ Below w.heap.size w w' := by
  have hu162 := Tryd.underlying162
  have HB := Aside0.mk (Below.refl w.heap.size w)
  have H : (some (([(⟨0, 0, 1⟩ : S162), (⟨1, 1, 2⟩ : S162), (⟨2, 3, 1⟩ : S162), (⟨4, 5, 6⟩ : S162), (⟨3, 1, 4⟩ : S162), (⟨3, 2, 4⟩ : S162), (⟨3, 3, 4⟩ : S162), (⟨3, 6, 4⟩ : S162), (⟨6, 7, 9⟩ : S162), (⟨7, 8, 0⟩ : S162), (⟨7, 10, 0⟩ : S162), (⟨7, 11, 0⟩ : S162)] : List (S162)))) = some r := h
  clear h
  obtain ⟨y101, hy101⟩ : ∃ y_ : List (S162), y_ = (([(⟨0, 0, 1⟩ : S162), (⟨1, 1, 2⟩ : S162), (⟨2, 3, 1⟩ : S162), (⟨4, 5, 6⟩ : S162), (⟨3, 1, 4⟩ : S162), (⟨3, 2, 4⟩ : S162), (⟨3, 3, 4⟩ : S162), (⟨3, 6, 4⟩ : S162), (⟨6, 7, 9⟩ : S162), (⟨7, 8, 0⟩ : S162), (⟨7, 10, 0⟩ : S162), (⟨7, 11, 0⟩ : S162)] : List (S162))) := ⟨_, rfl⟩
  replace H : (some y101) = some r := by first | (rw [hy101]; with_reducible exact H) | (have H2_ := (Option.bind_some _ _).symm.trans H; rw [hy101]; with_reducible exact H2_) | (have H2_ := (Option.bind_some _ _).symm.trans H; with_reducible exact H2_) | with_reducible exact H | (rw [hy101]; exact H) | exact H
  have Ny101 := Aside0.mk hy101
  clear hy101
  obtain rfl := Option.some.inj H
  go_enter Tryd.func116, Tryd.ntmps116
  go_wp2_with (first | ((with_reducible refine gate_dst (N := 13) rfl ?_); refine Kd.R_lit k162 _ 162 ?hg (N := 13) ?hd (xs := ([(⟨0, 0, 1⟩ : S162), (⟨1, 1, 2⟩ : S162), (⟨2, 3, 1⟩ : S162), (⟨4, 5, 6⟩ : S162), (⟨3, 1, 4⟩ : S162), (⟨3, 2, 4⟩ : S162), (⟨3, 3, 4⟩ : S162), (⟨3, 6, 4⟩ : S162), (⟨6, 7, 9⟩ : S162), (⟨7, 8, 0⟩ : S162), (⟨7, 10, 0⟩ : S162), (⟨7, 11, 0⟩ : S162)] : List (S162))) (inner := [.int .i64 0, .int .i64 0, .int .i64 1, .int .i64 1, .int .i64 1, .int .i64 2, .int .i64 2, .int .i64 3, .int .i64 1, .int .i64 4, .int .i64 5, .int .i64 6, .int .i64 3, .int .i64 1, .int .i64 4, .int .i64 3, .int .i64 2, .int .i64 4, .int .i64 3, .int .i64 3, .int .i64 4, .int .i64 3, .int .i64 6, .int .i64 4, .int .i64 6, .int .i64 7, .int .i64 9, .int .i64 7, .int .i64 8, .int .i64 0, .int .i64 7, .int .i64 10, .int .i64 0, .int .i64 7, .int .i64 11, .int .i64 0]) (ok := fun _ => True) (okp := fun _ => True) ?hr ?hp (fun _ hk => hk) trivial (Below.refl _ _) (Nat.le_refl _) (by simp) ?_; (case hd => rfl); (case hg => rfl); (case hr => first | (go_simp; done) | (go_simp; rfl)); (case hp => exact (Reps.c3 (show Kd.M k162 _ _ _ (⟨0, 0, 1⟩ : S162) [.int .i64 0, .int .i64 0, .int .i64 1] from (k162_mkM _ _ _ (⟨0, 0, 1⟩ : S162) )) (Reps.c3 (show Kd.M k162 _ _ _ (⟨1, 1, 2⟩ : S162) [.int .i64 1, .int .i64 1, .int .i64 2] from (k162_mkM _ _ _ (⟨1, 1, 2⟩ : S162) )) (Reps.c3 (show Kd.M k162 _ _ _ (⟨2, 3, 1⟩ : S162) [.int .i64 2, .int .i64 3, .int .i64 1] from (k162_mkM _ _ _ (⟨2, 3, 1⟩ : S162) )) (Reps.c3 (show Kd.M k162 _ _ _ (⟨4, 5, 6⟩ : S162) [.int .i64 4, .int .i64 5, .int .i64 6] from (k162_mkM _ _ _ (⟨4, 5, 6⟩ : S162) )) (Reps.c3 (show Kd.M k162 _ _ _ (⟨3, 1, 4⟩ : S162) [.int .i64 3, .int .i64 1, .int .i64 4] from (k162_mkM _ _ _ (⟨3, 1, 4⟩ : S162) )) (Reps.c3 (show Kd.M k162 _ _ _ (⟨3, 2, 4⟩ : S162) [.int .i64 3, .int .i64 2, .int .i64 4] from (k162_mkM _ _ _ (⟨3, 2, 4⟩ : S162) )) (Reps.c3 (show Kd.M k162 _ _ _ (⟨3, 3, 4⟩ : S162) [.int .i64 3, .int .i64 3, .int .i64 4] from (k162_mkM _ _ _ (⟨3, 3, 4⟩ : S162) )) (Reps.c3 (show Kd.M k162 _ _ _ (⟨3, 6, 4⟩ : S162) [.int .i64 3, .int .i64 6, .int .i64 4] from (k162_mkM _ _ _ (⟨3, 6, 4⟩ : S162) )) (Reps.c3 (show Kd.M k162 _ _ _ (⟨6, 7, 9⟩ : S162) [.int .i64 6, .int .i64 7, .int .i64 9] from (k162_mkM _ _ _ (⟨6, 7, 9⟩ : S162) )) (Reps.c3 (show Kd.M k162 _ _ _ (⟨7, 8, 0⟩ : S162) [.int .i64 7, .int .i64 8, .int .i64 0] from (k162_mkM _ _ _ (⟨7, 8, 0⟩ : S162) )) (Reps.c3 (show Kd.M k162 _ _ _ (⟨7, 10, 0⟩ : S162) [.int .i64 7, .int .i64 10, .int .i64 0] from (k162_mkM _ _ _ (⟨7, 10, 0⟩ : S162) )) (Reps.c3 (show Kd.M k162 _ _ _ (⟨7, 11, 0⟩ : S162) [.int .i64 7, .int .i64 11, .int .i64 0] from (k162_mkM _ _ _ (⟨7, 11, 0⟩ : S162) )) (Reps.none _ _)))))))))))))); intro v102 w1 ho2 hb hg_ hnew_; clear hg_ hnew_; (first | rw [← Ny101.out] at ho2 | (simp only [Int.reduceToNat] at ho2; rw [← Ny101.out] at ho2)); have n0_ := Aside0.mk (Kd.R_lower ho2 (below_size qb)); have n1_ := qs hb; clear HB; have HO103 := n0_; have HB := n1_; clear n0_ n1_; clear hb ho2))
  go_ret
  exact ⟨_, by first | rfl | (simp [errW_none, errW_some] <;> rfl) | (simp [*, errW_none, errW_some] <;> rfl), by (with_reducible repeat (first | apply Kd.R_alloc | apply Kd.R_drewN | apply Kd.R_drew)); exact HO103.out, qb⟩
mutual
def chart_Next.j1 : Nat → Int → Int → Option (Int × Bool)
  | 0, _, _ => none
  | k + 1, x0, x1 => (chart_leads.f).bind fun t103 => (chart_Next.l0 k x0 x1 t103 (t103.length : Int) 0)
def chart_Next.l0 : Nat → Int → Int → List (S162) → Int → Int → Option (Int × Bool)
  | 0, _, _, _, _, _ => none
  | k + 1, x0, x1, x22, x23, x24 => if x24 < x23 then (if 0 ≤ x24 then (if x24 < (x22.length : Int) then (if ((rd_T162 x22 x24).f0) = x1 then (if ((rd_T162 x22 x24).f1) = x0 then (some ((rd_T162 x22 x24).f2, true)) else (chart_Next.l0 k x0 x1 x22 x23 (wrap64 (x24 + 1)))) else (chart_Next.l0 k x0 x1 x22 x23 (wrap64 (x24 + 1)))) else (none)) else (none)) else (some (0, false))
def chart_Next.j0 : Nat → Int → Int → Bool → Option (Int × Bool)
  | 0, _, _, _ => none
  | k + 1, x0, x1, x8 => if x8 = true then (some (7, true)) else ((chart_busy.f x0).bind fun t102 => (if t102 = true then (if x1 = 6 then (some (9, true)) else (chart_Next.j1 k x0 x1)) else (chart_Next.j1 k x0 x1)))
end
def chart_Next.f (k : Nat) (a0 : Int) (a1 : Int) : Option (Int × Bool) := (chart_busy.f a0).bind fun t101 => (if t101 = true then (chart_Next.j0 k a0 a1 (a1 == 5)) else (chart_Next.j0 k a0 a1 false))
theorem chart_Next.mono_l : ∀ k, (∀ y0 y1, LeO (chart_Next.j1 k y0 y1) (chart_Next.j1 (k + 1) y0 y1)) ∧ (∀ y0 y1 y2 y3 y4, LeO (chart_Next.l0 k y0 y1 y2 y3 y4) (chart_Next.l0 (k + 1) y0 y1 y2 y3 y4)) ∧ (∀ y0 y1 y2, LeO (chart_Next.j0 k y0 y1 y2) (chart_Next.j0 (k + 1) y0 y1 y2))
  | 0 => ⟨fun _ _ r h => by simp [chart_Next.j1] at h, fun _ _ _ _ _ r h => by simp [chart_Next.l0] at h, fun _ _ _ r h => by simp [chart_Next.j0] at h⟩
  | k + 1 => by
    obtain ⟨ih0, ih1, ih2⟩ := chart_Next.mono_l k
    refine ⟨?_, ?_, ?_⟩
    · intro y0 y1
      unfold chart_Next.j1
      repeat' first
      | (with_reducible exact ih0 _ _)
      | (with_reducible exact ih1 _ _ _ _ _)
      | (with_reducible exact ih2 _ _ _)
      | (with_reducible exact LeO.refl _)
      | (with_reducible exact LeO.none _)
      | (with_reducible refine LeO.ite ?_ ?_)
      | (with_reducible refine LeO.bind ?_ (fun _ => ?_))
      | exact ih0 _ _
      | exact ih1 _ _ _ _ _
      | exact ih2 _ _ _
      | exact LeO.none _
      | refine LeO.ite ?_ ?_
      | refine LeO.bind ?_ (fun _ => ?_)
    · intro y0 y1 y2 y3 y4
      unfold chart_Next.l0
      repeat' first
      | (with_reducible exact ih0 _ _)
      | (with_reducible exact ih1 _ _ _ _ _)
      | (with_reducible exact ih2 _ _ _)
      | (with_reducible exact LeO.refl _)
      | (with_reducible exact LeO.none _)
      | (with_reducible refine LeO.ite ?_ ?_)
      | (with_reducible refine LeO.bind ?_ (fun _ => ?_))
      | exact ih0 _ _
      | exact ih1 _ _ _ _ _
      | exact ih2 _ _ _
      | exact LeO.none _
      | refine LeO.ite ?_ ?_
      | refine LeO.bind ?_ (fun _ => ?_)
    intro y0 y1 y2
    unfold chart_Next.j0
    repeat' first
    | (with_reducible exact ih0 _ _)
    | (with_reducible exact ih1 _ _ _ _ _)
    | (with_reducible exact ih2 _ _ _)
    | (with_reducible exact LeO.refl _)
    | (with_reducible exact LeO.none _)
    | (with_reducible refine LeO.ite ?_ ?_)
    | (with_reducible refine LeO.bind ?_ (fun _ => ?_))
    | exact ih0 _ _
    | exact ih1 _ _ _ _ _
    | exact ih2 _ _ _
    | exact LeO.none _
    | refine LeO.ite ?_ ?_
    | refine LeO.bind ?_ (fun _ => ?_)
theorem chart_Next.mono : ∀ a0 a1 k, LeO (chart_Next.f k a0 a1) (chart_Next.f (k + 1) a0 a1) := by
  intro a0 a1 k
  obtain ⟨ih0, ih1, ih2⟩ := chart_Next.mono_l k
  unfold chart_Next.f
  repeat' first
      | (with_reducible exact ih0 _ _)
      | (with_reducible exact ih1 _ _ _ _ _)
      | (with_reducible exact ih2 _ _ _)
      | (with_reducible exact LeO.refl _)
      | (with_reducible exact LeO.none _)
      | (with_reducible refine LeO.ite ?_ ?_)
      | (with_reducible refine LeO.bind ?_ (fun _ => ?_))
      | exact ih0 _ _
      | exact ih1 _ _ _ _ _
      | exact ih2 _ _ _
      | exact LeO.none _
      | refine LeO.ite ?_ ?_
      | refine LeO.bind ?_ (fun _ => ?_)
set_option maxHeartbeats 8000000 in
set_option maxRecDepth 100000 in
theorem chart_Next.calls (k : Nat) (a0 : Int) (a1 : Int) (r1 : Int) (r2 : Bool) (w : World) (h : chart_Next.f k a0 a1 = some (r1, r2)) :
    Calls Tryd.prog 84 #[.int .i64 a0, .int .i64 a1] w fun e w' => e = .returned (.tuple #[.int .i64 r1, .bool r2]) ∧ Below w.heap.size w w' := by
  have hu162 := Tryd.underlying162
  have HB := Aside0.mk (Below.refl w.heap.size w)
  have H : ((chart_busy.f a0).bind fun t101 => (if t101 = true then (chart_Next.j0 k a0 a1 (a1 == 5)) else (chart_Next.j0 k a0 a1 false))) = some (r1, r2) := h
  clear h
  have HC3 := Aside0.mk H
  clear H
  go_enter Tryd.func84, Tryd.ntmps84
  go_upto_block 0 with (fail)
  go_cut [] (fun wc => ∃ (kq : Nat), Aside0 (chart_Next.j1 kq a0 a1 = some (r1, r2)) ∧ Aside0 (kq ≤ k) ∧ Aside0 (Below w.heap.size w wc))
  case first =>
    have H := HC3.out
    clear HC3
    have HC4 := Aside0.mk H
    clear H
    go_upto_region 1 with (fail)
    go_cut [8] (fun v8 wc => ∃ (kq : Nat) (x8_3 : Bool), v8 = .bool x8_3 ∧ Aside0 (chart_Next.j0 kq a0 a1 x8_3 = some (r1, r2)) ∧ Aside0 (kq ≤ k) ∧ Aside0 (Below w.heap.size w wc))
    case first =>
      have H := HC4.out
      clear HC4
      replace H := qi H
      obtain ⟨t101, A5, H⟩ := H
      by_cases c6 : t101 = true
      · subst c6
        rw [if_pos rfl] at H
        have H' := Aside0.mk H
        clear H
        go_wp2_with (first | ((with_reducible refine gate_callee (f := 115) rfl ?_); refine goesL_ (some 10) rfl rfl Tryd.func115 (by kernel_rfl) rfl #[.int .i64 a0] rfl qm ?_; (with_reducible refine (chart_busy.calls a0 true _ A5.out).mono ?_); rintro e w' ⟨rfl, ⟨nd, rfl⟩⟩; refine ⟨_, rfl, ?_⟩))
        go_meet
        case rel => exact ⟨_, ((a1 == 5)), qv, H', ql, qB⟩
      replace c6 := Bool.eq_false_iff.mpr c6
      subst c6
      rw [if_neg qf] at H
      have H' := Aside0.mk H
      clear H
      go_wp2_with (first | ((with_reducible refine gate_callee (f := 115) rfl ?_); refine goesL_ (some 10) rfl rfl Tryd.func115 (by kernel_rfl) rfl #[.int .i64 a0] rfl qm ?_; (with_reducible refine (chart_busy.calls a0 false _ A5.out).mono ?_); rintro e w' ⟨rfl, ⟨nd, rfl⟩⟩; refine ⟨_, rfl, ?_⟩))
      go_meet
      case rel => exact ⟨_, (false), qv, H', ql, qB⟩
    clear HC4
    obtain ⟨kq, x8_3, rfl, HA, HJ3, HB⟩ := hcut
    cases kq with
    | zero => exact absurd HA.out (by simp [chart_Next.j0])
    | succ kj3 =>
      have H := HA.out
      clear HA
      simp only [chart_Next.j0] at H
      by_cases c7 : x8_3 = true
      · subst c7
        rw [if_pos rfl] at H
        simp only [Option.some.injEq, Prod.mk.injEq] at H
        obtain ⟨rfl, rfl⟩ := H
        go_wp2
        go_ret2
        exact qr
      replace c7 := Bool.eq_false_iff.mpr c7
      subst c7
      rw [if_neg qf] at H
      replace H := qi H
      obtain ⟨t102, A8, H⟩ := H
      by_cases c9 : t102 = true
      · subst c9
        rw [if_pos rfl] at H
        by_cases c10 : a1 = 6
        · rw [if_pos c10] at H
          obtain ⟨c10b0, c10b1⟩ := qe c10
          clear c10
          simp only [Option.some.injEq, Prod.mk.injEq] at H
          obtain ⟨rfl, rfl⟩ := H
          go_wp2_with (first | ((with_reducible refine gate_callee (f := 115) rfl ?_); refine goesL_ (some 17) rfl rfl Tryd.func115 (by kernel_rfl) rfl #[.int .i64 a0] rfl qm ?_; (with_reducible refine (chart_busy.calls a0 true _ A8.out).mono ?_); rintro e w' ⟨rfl, ⟨nd, rfl⟩⟩; refine ⟨_, rfl, ?_⟩))
          go_ret2
          exact qr
        rw [if_neg c10] at H
        obtain ⟨c10b0, c10b1⟩ := qd c10
        have H' := Aside0.mk H
        clear H
        go_wp2_with (first | ((with_reducible refine gate_callee (f := 115) rfl ?_); refine goesL_ (some 17) rfl rfl Tryd.func115 (by kernel_rfl) rfl #[.int .i64 a0] rfl qm ?_; (with_reducible refine (chart_busy.calls a0 true _ A8.out).mono ?_); rintro e w' ⟨rfl, ⟨nd, rfl⟩⟩; refine ⟨_, rfl, ?_⟩))
        go_meet
        case rel => exact ⟨_, H', ⟨by have := HJ3.out; first | omega | exact Nat.le_refl _⟩, qB⟩
      replace c9 := Bool.eq_false_iff.mpr c9
      subst c9
      rw [if_neg qf] at H
      have H' := Aside0.mk H
      clear H
      go_wp2_with (first | ((with_reducible refine gate_callee (f := 115) rfl ?_); refine goesL_ (some 17) rfl rfl Tryd.func115 (by kernel_rfl) rfl #[.int .i64 a0] rfl qm ?_; (with_reducible refine (chart_busy.calls a0 false _ A8.out).mono ?_); rintro e w' ⟨rfl, ⟨nd, rfl⟩⟩; refine ⟨_, rfl, ?_⟩))
      go_meet
      case rel => exact ⟨_, H', ⟨by have := HJ3.out; first | omega | exact Nat.le_refl _⟩, qB⟩
  clear HC3
  obtain ⟨kq, HA, HJ2, HB⟩ := hcut
  cases kq with
  | zero => exact absurd HA.out (by simp [chart_Next.j1])
  | succ kj2 =>
    have H := HA.out
    clear HA
    simp only [chart_Next.j1] at H
    replace H := qi H
    obtain ⟨t103, A11, H⟩ := H
    have H' := Aside0.mk H
    clear H
    go_wp2_with (first | ((with_reducible refine gate_callee (f := 116) rfl ?_); refine goesL_ (some 22) rfl rfl Tryd.func116 (by kernel_rfl) rfl #[] rfl qm ?_; (with_reducible refine (chart_leads.calls  t103 _ A11.out).mono ?_); rintro e w12 ⟨v104, rfl, ho0, hb⟩; refine ⟨_, rfl, ?_⟩; have n0_ := Aside0.mk (Kd.R_lower ho0 (below_size qb)); have n1_ := qs hb; clear HB; have HO105 := n0_; have HB := n1_; clear n0_ n1_; (try clear hb); (try clear ho0); obtain ⟨Ao13, co13, eo13⟩ := Kd.R_slice HO105.out; subst eo13))
    go_loopg [24] kj2 (fun kq v24 w' => ∃ (x24_2 : Int), v24 = .int .i64 x24_2 ∧ Aside0 (chart_Next.l0 kq a0 a1 t103 (t103.length : Int) x24_2 = some (r1, r2)) ∧ Aside0 (kq ≤ kj2) ∧ Aside0 (Kd.R k162 162 w' w.heap.size (fun _ => True) (.slice Ao13 t103.length co13) t103) ∧ Aside0 (Below w.heap.size w w'))
    case atStart => exact ⟨(0), qv, H', ⟨Nat.le_refl _⟩, ⟨by (with_reducible repeat (first | apply Kd.R_alloc | apply Kd.R_drewN | apply Kd.R_drew)); exact HO105.out⟩, qB⟩
    case round =>
      clear H'
      obtain ⟨x24_2, rfl, HA, HK2, HO_22, HB⟩ := hrel
      cases gk with
      | zero => exact absurd HA.out (by simp [chart_Next.l0])
      | succ k2 =>
        have H := HA.out
        clear HA
        simp only [chart_Next.l0] at H
        by_cases c14 : x24_2 < (t103.length : Int)
        · rw [if_pos c14] at H
          have c14b0 : decide (x24_2 < (t103.length : Int)) = true := decide_eq_true c14
          clear c14
          by_cases c15 : 0 ≤ x24_2
          · rw [if_pos c15] at H
            have c15b0 : decide (0 ≤ x24_2) = true := decide_eq_true c15
            clear c15
            by_cases c16 : x24_2 < (t103.length : Int)
            · rw [if_pos c16] at H
              have c16b0 : decide (x24_2 < (t103.length : Int)) = true := decide_eq_true c16
              clear c16
              by_cases c17 : ((rd_T162 t103 x24_2).f0) = a1
              · rw [if_pos c17] at H
                obtain ⟨c17b0, c17b1⟩ := qe c17
                clear c17
                by_cases c18 : ((rd_T162 t103 x24_2).f1) = a0
                · rw [if_pos c18] at H
                  obtain ⟨c18b0, c18b1⟩ := qe c18
                  clear c18
                  simp only [Option.some.injEq, Prod.mk.injEq] at H
                  obtain ⟨rfl, rfl⟩ := H
                  have p106 : 0 ≤ (x24_2 : Int) := qa
                  have q106 : x24_2 < (t103.length : Int) := qa
                  obtain ⟨ad106, e106, hx106_0, hx106_1, hx106_2⟩ := at_T162 (Kd.R_reads' HO_22.out).2.2 x24_2 p106 q106
                  cases e106
                  replace p106 := eq_true p106
                  replace q106 := eq_true q106
                  go_wp2_with (first | ((with_reducible refine gate_dst (N := 7) rfl ?_); refine box_event ?hg (N := 7) ?hd (cs := #[.int .i64 0, .int .i64 0, .int .i64 0]) (t := 162) ?hr ?_; (case hd => rfl); (case hg => rfl); (case hr => first | (go_simp; done) | (go_simp; rfl)); intro gb107 hg w19 hbox hb; have n0_ := Aside0.mk (Kd.R_below (Kd.R_elderB (by (with_reducible repeat (first | apply Kd.R_alloc | apply Kd.R_drewN | apply Kd.R_drew)); exact HO_22.out) gb107 (Nat.le_of_eq hg.symm)) hb); have n1_ := qs hb; have n2_ := Aside0.mk (hbox); have n3_ := Aside0.mk ((by rw [hg]; exact (below_size qb) : w.heap.size ≤ gb107)); have n4_ := Aside0.mk ((by rw [hg]; exact (below_size qb) : w.heap.size ≤ gb107)); clear HO_22; clear HB; have HO_22 := n0_; have HB := n1_; have BK107 := n2_; have GW107 := n3_; have GE107 := n4_; clear n0_ n1_ n2_ n3_ n4_; clear hb hbox hg; obtain ⟨_, _, _, _, _, _⟩ := q3 BK107.out))
                  go_ret2
                  exact qr
                rw [if_neg c18] at H
                obtain ⟨c18b0, c18b1⟩ := qd c18
                have H' := Aside0.mk H
                clear H
                have p106 : 0 ≤ (x24_2 : Int) := qa
                have q106 : x24_2 < (t103.length : Int) := qa
                obtain ⟨ad106, e106, hx106_0, hx106_1, hx106_2⟩ := at_T162 (Kd.R_reads' HO_22.out).2.2 x24_2 p106 q106
                cases e106
                replace p106 := eq_true p106
                replace q106 := eq_true q106
                go_wp2_with (first | ((with_reducible refine gate_dst (N := 7) rfl ?_); refine box_event ?hg (N := 7) ?hd (cs := #[.int .i64 0, .int .i64 0, .int .i64 0]) (t := 162) ?hr ?_; (case hd => rfl); (case hg => rfl); (case hr => first | (go_simp; done) | (go_simp; rfl)); intro gb107 hg w21 hbox hb; have n0_ := Aside0.mk (Kd.R_below (Kd.R_elderB (by (with_reducible repeat (first | apply Kd.R_alloc | apply Kd.R_drewN | apply Kd.R_drew)); exact HO_22.out) gb107 (Nat.le_of_eq hg.symm)) hb); have n1_ := qs hb; have n2_ := Aside0.mk (hbox); have n3_ := Aside0.mk ((by rw [hg]; exact (below_size qb) : w.heap.size ≤ gb107)); have n4_ := Aside0.mk ((by rw [hg]; exact (below_size qb) : w.heap.size ≤ gb107)); clear HO_22; clear HB; have HO_22 := n0_; have HB := n1_; have BK107 := n2_; have GW107 := n3_; have GE107 := n4_; clear n0_ n1_ n2_ n3_ n4_; clear hb hbox hg; obtain ⟨_, _, _, _, _, _⟩ := q3 BK107.out))
                go_roundg k2
                case measure => have := HJ2.out; have := HK2.out; omega
                case rel => exact ⟨(wrap64 (x24_2 + 1)), qv, H', ⟨by have := HJ2.out; have := HK2.out; omega⟩, ⟨by (with_reducible repeat (first | apply Kd.R_alloc | apply Kd.R_drewN | apply Kd.R_drew)); exact Kd.R_mono (Kd.R_far (p := ⟨gb107, 2, none⟩) (Kd.R_far (p := ⟨gb107, 1, none⟩) (Kd.R_far (p := ⟨gb107, 0, none⟩) (Kd.R_mono HO_22.out (fun k_ hk => (⟨hk, hk.2⟩ : _ ∧ k_ ≠ gb107))) (fun _ hk => hk.2) (.int .i64 ((rd_T162 t103 x24_2).f0))) (fun _ hk => hk.2) (.int .i64 ((rd_T162 t103 x24_2).f1))) (fun _ hk => hk.2) (.int .i64 ((rd_T162 t103 x24_2).f2))) (fun _ hk => trivial)⟩, qB⟩
              rw [if_neg c17] at H
              obtain ⟨c17b0, c17b1⟩ := qd c17
              have H' := Aside0.mk H
              clear H
              have p106 : 0 ≤ (x24_2 : Int) := qa
              have q106 : x24_2 < (t103.length : Int) := qa
              obtain ⟨ad106, e106, hx106_0, hx106_1, hx106_2⟩ := at_T162 (Kd.R_reads' HO_22.out).2.2 x24_2 p106 q106
              cases e106
              replace p106 := eq_true p106
              replace q106 := eq_true q106
              go_wp2_with (first | ((with_reducible refine gate_dst (N := 7) rfl ?_); refine box_event ?hg (N := 7) ?hd (cs := #[.int .i64 0, .int .i64 0, .int .i64 0]) (t := 162) ?hr ?_; (case hd => rfl); (case hg => rfl); (case hr => first | (go_simp; done) | (go_simp; rfl)); intro gb107 hg w23 hbox hb; have n0_ := Aside0.mk (Kd.R_below (Kd.R_elderB (by (with_reducible repeat (first | apply Kd.R_alloc | apply Kd.R_drewN | apply Kd.R_drew)); exact HO_22.out) gb107 (Nat.le_of_eq hg.symm)) hb); have n1_ := qs hb; have n2_ := Aside0.mk (hbox); have n3_ := Aside0.mk ((by rw [hg]; exact (below_size qb) : w.heap.size ≤ gb107)); have n4_ := Aside0.mk ((by rw [hg]; exact (below_size qb) : w.heap.size ≤ gb107)); clear HO_22; clear HB; have HO_22 := n0_; have HB := n1_; have BK107 := n2_; have GW107 := n3_; have GE107 := n4_; clear n0_ n1_ n2_ n3_ n4_; clear hb hbox hg; obtain ⟨_, _, _, _, _, _⟩ := q3 BK107.out))
              go_roundg k2
              case measure => have := HJ2.out; have := HK2.out; omega
              case rel => exact ⟨(wrap64 (x24_2 + 1)), qv, H', ⟨by have := HJ2.out; have := HK2.out; omega⟩, ⟨by (with_reducible repeat (first | apply Kd.R_alloc | apply Kd.R_drewN | apply Kd.R_drew)); exact Kd.R_mono (Kd.R_far (p := ⟨gb107, 2, none⟩) (Kd.R_far (p := ⟨gb107, 1, none⟩) (Kd.R_far (p := ⟨gb107, 0, none⟩) (Kd.R_mono HO_22.out (fun k_ hk => (⟨hk, hk.2⟩ : _ ∧ k_ ≠ gb107))) (fun _ hk => hk.2) (.int .i64 ((rd_T162 t103 x24_2).f0))) (fun _ hk => hk.2) (.int .i64 ((rd_T162 t103 x24_2).f1))) (fun _ hk => hk.2) (.int .i64 ((rd_T162 t103 x24_2).f2))) (fun _ hk => trivial)⟩, qB⟩
            rw [if_neg c16] at H
            exact absurd H (by simp)
          rw [if_neg c15] at H
          exact absurd H (by simp)
        rw [if_neg c14] at H
        have c14b0 : decide (x24_2 < (t103.length : Int)) = false := decide_eq_false c14
        clear c14
        simp only [Option.some.injEq, Prod.mk.injEq] at H
        obtain ⟨rfl, rfl⟩ := H
        go_wp2
        go_ret2
        exact qr
def phase_Command.j0 : Nat → Int → Int → Bool → Int → Int → Int → Int → Int → Bool → Int → List (S69) → Option (Int × Int × Int × Int × Int × Bool × Int × (List (S69)) × Int)
  | 0, _, _, _, _, _, _, _, _, _, _, _ => none
  | k + 1, x1, x6, x20, x102000, x102001, x102002, x102003, x102004, x102005, x102006, x102007 => if x20 = true then (some (0, 0, 0, 0, 0, false, 0, ([] : List (S69)), 100)) else (if x1 = 7 then (some (x6, 0, 0, 0, 0, x102005, 0, ([] : List (S69)), 0)) else ((phase_in.f x102000 x102001 x102002 x102003 x102004 x102005 x102006 x102007 x6).bind fun bt105 => (some (bt105.1, bt105.2.1, bt105.2.2.1, bt105.2.2.2.1, bt105.2.2.2.2.1, bt105.2.2.2.2.2.1, bt105.2.2.2.2.2.2.1, bt105.2.2.2.2.2.2.2, 0))))
def phase_Command.f (k : Nat) (a0_0 : Int) (a0_1 : Int) (a0_2 : Int) (a0_3 : Int) (a0_4 : Int) (a0_5 : Bool) (a0_6 : Int) (l0_7 : List (S69)) (a1 : Int) : Option (Int × Int × Int × Int × Int × Bool × Int × (List (S69)) × Int) := (chart_Next.f k a0_0 a1).bind fun bt103 => (if bt103.2 = true then (phase_Command.j0 k a1 bt103.1 (a1 == 0) a0_0 a0_1 a0_2 a0_3 a0_4 a0_5 a0_6 l0_7) else (phase_Command.j0 k a1 bt103.1 true a0_0 a0_1 a0_2 a0_3 a0_4 a0_5 a0_6 l0_7))
theorem phase_Command.mono_l : ∀ k, (∀ y0 y1 y2 y3 y4 y5 y6 y7 y8 y9 y10, LeO (phase_Command.j0 k y0 y1 y2 y3 y4 y5 y6 y7 y8 y9 y10) (phase_Command.j0 (k + 1) y0 y1 y2 y3 y4 y5 y6 y7 y8 y9 y10))
  | 0 => fun _ _ _ _ _ _ _ _ _ _ _ r h => by simp [phase_Command.j0] at h
  | k + 1 => by
    have ih0 := phase_Command.mono_l k
    intro y0 y1 y2 y3 y4 y5 y6 y7 y8 y9 y10
    unfold phase_Command.j0
    repeat' first
    | (with_reducible exact ih0 _ _ _ _ _ _ _ _ _ _ _)
    | (with_reducible exact chart_Next.mono _ _ _)
    | (with_reducible exact LeO.refl _)
    | (with_reducible exact LeO.none _)
    | (with_reducible refine LeO.ite ?_ ?_)
    | (with_reducible refine LeO.bind ?_ (fun _ => ?_))
    | exact ih0 _ _ _ _ _ _ _ _ _ _ _
    | exact chart_Next.mono _ _ _
    | exact LeO.none _
    | refine LeO.ite ?_ ?_
    | refine LeO.bind ?_ (fun _ => ?_)
theorem phase_Command.mono : ∀ a0 a1 a2 a3 a4 a5 a6 a7 a8 k, LeO (phase_Command.f k a0 a1 a2 a3 a4 a5 a6 a7 a8) (phase_Command.f (k + 1) a0 a1 a2 a3 a4 a5 a6 a7 a8) := by
  intro a0 a1 a2 a3 a4 a5 a6 a7 a8 k
  have ih0 := phase_Command.mono_l k
  unfold phase_Command.f
  repeat' first
      | (with_reducible exact ih0 _ _ _ _ _ _ _ _ _ _ _)
      | (with_reducible exact chart_Next.mono _ _ _)
      | (with_reducible exact LeO.refl _)
      | (with_reducible exact LeO.none _)
      | (with_reducible refine LeO.ite ?_ ?_)
      | (with_reducible refine LeO.bind ?_ (fun _ => ?_))
      | exact ih0 _ _ _ _ _ _ _ _ _ _ _
      | exact chart_Next.mono _ _ _
      | exact LeO.none _
      | refine LeO.ite ?_ ?_
      | refine LeO.bind ?_ (fun _ => ?_)
set_option maxHeartbeats 8000000 in
set_option maxRecDepth 100000 in
theorem phase_Command.calls (k : Nat) (a0_0 : Int) (a0_1 : Int) (a0_2 : Int) (a0_3 : Int) (a0_4 : Int) (a0_5 : Bool) (a0_6 : Int) (A0_7 : Option Addr) (c0_7 : Nat) (l0_7 : List (S69)) (a1 : Int) (r1 : Int) (r2 : Int) (r3 : Int) (r4 : Int) (r5 : Int) (r6 : Bool) (r7 : Int) (r8 : List (S69)) (r9 : Int) (w : World) (hr0_7 : Kd.C k69 w A0_7 l0_7.length l0_7) (hc0_7 : l0_7.length ≤ c0_7) (h : phase_Command.f k a0_0 a0_1 a0_2 a0_3 a0_4 a0_5 a0_6 l0_7 a1 = some (r1, r2, r3, r4, r5, r6, r7, r8, r9)) :
    Calls Tryd.prog 52 #[.agg #[.int .i64 a0_0, .int .i64 a0_1, .int .i64 a0_2, .int .i64 a0_3, .int .i64 a0_4, .bool a0_5, .int .i64 a0_6, .slice A0_7 l0_7.length c0_7], .int .i64 a1] w fun e w' => ∃ v7_ : Value, e = .returned (.tuple #[.agg #[.int .i64 r1, .int .i64 r2, .int .i64 r3, .int .i64 r4, .int .i64 r5, .bool r6, .int .i64 r7, v7_], .int .i64 r9]) ∧ Kd.R k69 69 w' w.heap.size (fun _ => True) v7_ r8 ∧ Below w.heap.size w w' := by
  have hu82 := Tryd.underlying82
  have HR0_7 := Aside0.mk hr0_7
  have HC0_7 := Aside0.mk hc0_7
  clear hr0_7 hc0_7
  have HB := Aside0.mk (Below.refl w.heap.size w)
  have H : ((chart_Next.f k a0_0 a1).bind fun bt103 => (if bt103.2 = true then (phase_Command.j0 k a1 bt103.1 (a1 == 0) a0_0 a0_1 a0_2 a0_3 a0_4 a0_5 a0_6 l0_7) else (phase_Command.j0 k a1 bt103.1 true a0_0 a0_1 a0_2 a0_3 a0_4 a0_5 a0_6 l0_7))) = some (r1, r2, r3, r4, r5, r6, r7, r8, r9) := h
  clear h
  replace H := qi H
  obtain ⟨⟨t103, t104⟩, A3, H⟩ := H
  replace H : (if t104 = true then (phase_Command.j0 k a1 t103 (a1 == 0) a0_0 a0_1 a0_2 a0_3 a0_4 a0_5 a0_6 l0_7) else (phase_Command.j0 k a1 t103 true a0_0 a0_1 a0_2 a0_3 a0_4 a0_5 a0_6 l0_7)) = some (r1, r2, r3, r4, r5, r6, r7, r8, r9) := H
  have HC4 := Aside0.mk H
  clear H
  go_enter Tryd.func52, Tryd.ntmps52
  go_upto_region 2 with (first | ((with_reducible refine gate_dst (N := 2) rfl ?_); refine box_event ?hg (N := 2) ?hd (cs := #[.int .i64 a0_0, .int .i64 a0_1, .int .i64 a0_2, .int .i64 a0_3, .int .i64 a0_4, .bool a0_5, .int .i64 a0_6, .slice A0_7 l0_7.length c0_7]) (t := 82) ?hr ?_; (case hd => rfl); (case hg => rfl); (case hr => first | (go_simp; done) | (go_simp; rfl)); intro gb101 hg w5 hbox hb; have n0_ := qs hb; have n1_ := Aside0.mk (hbox); have n2_ := Aside0.mk ((by rw [hg]; exact (below_size qb) : w.heap.size ≤ gb101)); have n3_ := Aside0.mk ((by rw [hg]; exact (below_size qb) : w.heap.size ≤ gb101)); clear HB; have HB := n0_; have BK101 := n1_; have GW101 := n2_; have GE101 := n3_; clear n0_ n1_ n2_ n3_; clear hb hbox hg) | ((with_reducible refine gate_dst (N := 4) rfl ?_); refine box_event ?hg (N := 4) ?hd (cs := #[.int .i64 0, .int .i64 0, .int .i64 0, .int .i64 0, .int .i64 0, .bool false, .int .i64 0, .slice none 0 0]) (t := 82) ?hr ?_; (case hd => rfl); (case hg => rfl); (case hr => first | (go_simp; done) | (go_simp; rfl)); intro gb102 hg w6 hbox hb; have n0_ := qn101 (g := gb101) hb; have n1_ := qs hb; have n2_ := Aside0.mk (hbox); have n3_ := Aside0.mk ((by rw [hg]; exact (below_size qb) : w.heap.size ≤ gb102)); have n4_ := Aside0.mk ((by rw [hg]; exact (below_size qb) : w.heap.size ≤ gb102)); have n5_ := Aside0.mk ((by rw [hg]; exact Nat.ne_of_lt (blk_lt (g := gb101) (o := .cells #[.int .i64 a0_0, .int .i64 a0_1, .int .i64 a0_2, .int .i64 a0_3, .int .i64 a0_4, .bool a0_5, .int .i64 a0_6, .slice A0_7 l0_7.length c0_7] 82 (0, 0)) (by (with_reducible repeat (first | refine blk_drewN ?_ _ | refine blk_drew ?_ | refine blk_alloc ?_ _)); exact BK101.out)) : gb101 ≠ gb102)); have n6_ := Aside0.mk ((by rw [hg]; exact Nat.ne_of_gt (blk_lt (g := gb101) (o := .cells #[.int .i64 a0_0, .int .i64 a0_1, .int .i64 a0_2, .int .i64 a0_3, .int .i64 a0_4, .bool a0_5, .int .i64 a0_6, .slice A0_7 l0_7.length c0_7] 82 (0, 0)) (by (with_reducible repeat (first | refine blk_drewN ?_ _ | refine blk_drew ?_ | refine blk_alloc ?_ _)); exact BK101.out)) : gb102 ≠ gb101)); clear BK101; clear HB; have BK101 := n0_; have HB := n1_; have BK102 := n2_; have GW102 := n3_; have GE102 := n4_; have NB101_102 := n5_; have NB102_101 := n6_; clear n0_ n1_ n2_ n3_ n4_ n5_ n6_; clear hb hbox hg; have hnb7 := NB101_102.out; have hnc7 := NB102_101.out; obtain ⟨_, _, _, _, _, _, _, _, _, _, _, _, _, _, _, _⟩ := q8 BK101.out) | ((with_reducible refine gate_callee (f := 84) rfl ?_); refine goesL_ (some 12) rfl rfl Tryd.func84 (by kernel_rfl) rfl #[.int .i64 a0_0, .int .i64 a1] rfl qm ?_; (with_reducible refine (chart_Next.calls k a0_0 a1 t103 t104 _ A3.out).mono ?_); rintro e w9 ⟨rfl, hb⟩; refine ⟨_, rfl, ?_⟩; have n0_ := qn101 (g := gb101) hb; have n1_ := qn102 (g := gb102) hb; have n2_ := qs hb; clear BK101; clear BK102; clear HB; have BK101 := n0_; have BK102 := n1_; have HB := n2_; clear n0_ n1_ n2_; (try clear hb)))
  (try simp only [Act.put, List.setIfInBounds_toArray, List.set_cons_zero, List.set_cons_succ])
  go_cut [20] (fun v20 wc => ∃ (kq : Nat) (x20_3 : Bool), v20 = .bool x20_3 ∧ Aside0 (phase_Command.j0 kq a1 t103 x20_3 a0_0 a0_1 a0_2 a0_3 a0_4 a0_5 a0_6 l0_7 = some (r1, r2, r3, r4, r5, r6, r7, r8, r9)) ∧ Aside0 (kq ≤ k) ∧ Aside0 (wc.heap[gb101]? = some (.cells #[.int .i64 a0_0, .int .i64 a0_1, .int .i64 a0_2, .int .i64 a0_3, .int .i64 a0_4, .bool a0_5, .int .i64 a0_6, (.slice A0_7 l0_7.length c0_7)] 82 (0, 0))) ∧ Aside0 (wc.heap[gb102]? = some (.cells #[.int .i64 0, .int .i64 0, .int .i64 0, .int .i64 0, .int .i64 0, .bool false, .int .i64 0, (.slice none 0 0)] 82 (0, 0))) ∧ Aside0 (Below w.heap.size w wc))
  case first =>
    have H := HC4.out
    clear HC4
    by_cases c10 : t104 = true
    · subst c10
      rw [if_pos rfl] at H
      have H' := Aside0.mk H
      clear H
      go_wp2
      go_meet
      case rel => exact ⟨_, ((a1 == 0)), qv, H', ql, qk101, qk102, qB⟩
    replace c10 := Bool.eq_false_iff.mpr c10
    subst c10
    rw [if_neg qf] at H
    have H' := Aside0.mk H
    clear H
    go_wp2
    go_meet
    case rel => exact ⟨_, (true), qv, H', ql, qk101, qk102, qB⟩
  clear HC4
  obtain ⟨kq, x20_3, rfl, HA, HJ3, BK101, BK102, HB⟩ := hcut
  cases kq with
  | zero => exact absurd HA.out (by simp [phase_Command.j0])
  | succ kj3 =>
    have H := HA.out
    clear HA
    simp only [phase_Command.j0] at H
    by_cases c11 : x20_3 = true
    · subst c11
      rw [if_pos rfl] at H
      simp only [Option.some.injEq, Prod.mk.injEq] at H
      obtain ⟨rfl, rfl, rfl, rfl, rfl, rfl, rfl, rfl, rfl⟩ := H
      have hnb12 := NB102_101.out
      have hnc12 := NB101_102.out
      obtain ⟨_, _, _, _, _, _, _, _, _, _, _, _, _, _, _, _⟩ := q8 BK102.out
      go_wp2
      refine bodyPost_ret (results_ct rfl _ _ gb102 82 #[.int .i64 0, .int .i64 0, .int .i64 0, .int .i64 0, .int .i64 0, .bool false, .int .i64 0, .slice none 0 0] (0, 0) _ rfl qy102 Tryd.underlying82 rfl (by kernel_rfl)) rfl ?_
      exact ⟨_, by first | rfl | (simp [errW_none, errW_some] <;> rfl) | (simp [*, errW_none, errW_some] <;> rfl), by first | exact Kd.R_nil _ _ _ _ _ | exact Kd.N_nil _ _ _ _ _ | exact Kd.V_nil _ _ _ _ _ | exact Kd.Q_nil _ _ _ _ _ | exact Kd.S_nil _ _ _ _ _, qb⟩
    replace c11 := Bool.eq_false_iff.mpr c11
    subst c11
    rw [if_neg qf] at H
    by_cases c14 : a1 = 7
    · rw [if_pos c14] at H
      obtain ⟨c14b0, c14b1⟩ := qe c14
      clear c14
      simp only [Option.some.injEq, Prod.mk.injEq] at H
      obtain ⟨rfl, rfl, rfl, rfl, rfl, rfl, rfl, rfl, rfl⟩ := H
      have hnb15 := NB101_102.out
      have hnc15 := NB102_101.out
      obtain ⟨_, _, _, _, _, _, _, _, _, _, _, _, _, _, _, _⟩ := q8 BK101.out
      obtain ⟨_, _, _, _, _, _, _, _, _, _, _, _, _, _, _, _⟩ := q8 BK102.out
      go_wp2
      refine bodyPost_ret (results_ct rfl _ _ gb102 82 #[.int .i64 t103, .int .i64 0, .int .i64 0, .int .i64 0, .int .i64 0, .bool a0_5, .int .i64 0, .slice none 0 0] (0, 0) _ rfl qy102 Tryd.underlying82 rfl (by kernel_rfl)) rfl ?_
      exact ⟨_, by first | rfl | (simp [errW_none, errW_some] <;> rfl) | (simp [*, errW_none, errW_some] <;> rfl), by first | exact Kd.R_nil _ _ _ _ _ | exact Kd.N_nil _ _ _ _ _ | exact Kd.V_nil _ _ _ _ _ | exact Kd.Q_nil _ _ _ _ _ | exact Kd.S_nil _ _ _ _ _, qb⟩
    rw [if_neg c14] at H
    obtain ⟨c14b0, c14b1⟩ := qd c14
    replace H := qi H
    obtain ⟨⟨t105, t106, t107, t108, t109, t110, t111, t112⟩, A18, H⟩ := H
    replace H : (some (t105, t106, t107, t108, t109, t110, t111, t112, 0)) = some (r1, r2, r3, r4, r5, r6, r7, r8, r9) := H
    simp only [Option.some.injEq, Prod.mk.injEq] at H
    obtain ⟨rfl, rfl, rfl, rfl, rfl, rfl, rfl, rfl, rfl⟩ := H
    have hnb19 := NB101_102.out
    have hnc19 := NB102_101.out
    obtain ⟨_, _, _, _, _, _, _, _, _, _, _, _, _, _, _, _⟩ := q8 BK101.out
    go_wp2_with (first | ((with_reducible refine gate_callee (f := 85) rfl ?_); refine goesL_ (some 30) rfl rfl Tryd.func85 (by kernel_rfl) rfl #[.agg #[.int .i64 a0_0, .int .i64 a0_1, .int .i64 a0_2, .int .i64 a0_3, .int .i64 a0_4, .bool a0_5, .int .i64 a0_6, .slice A0_7 l0_7.length c0_7], .int .i64 t103] rfl qm ?_; (with_reducible refine (phase_in.calls a0_0 a0_1 a0_2 a0_3 a0_4 a0_5 a0_6 _ _ l0_7 t103 t105 t106 t107 t108 t109 t110 t111 t112 _ ?side1 ?side2 A18.out).mono ?_); (case side1 => exact qC HR0_7.out); (case side2 => exact HC0_7.out); rintro e w21 ⟨v113, rfl, ho0, hb⟩; refine ⟨_, rfl, ?_⟩; have n0_ := Aside0.mk (Kd.R_lower ho0 (below_size qb)); have n1_ := qn101 (g := gb101) hb; have n2_ := qn102 (g := gb102) hb; have n3_ := qs hb; clear BK101; clear BK102; clear HB; have HO114 := n0_; have BK101 := n1_; have BK102 := n2_; have HB := n3_; clear n0_ n1_ n2_ n3_; (try clear hb); (try clear ho0); obtain ⟨_, _, _, _, _, _, _, _, _, _, _, _, _, _, _, _⟩ := q8 BK102.out; obtain ⟨Ao23, co23, eo23⟩ := Kd.R_slice HO114.out; subst eo23))
    refine bodyPost_ret (results_ct rfl _ _ gb102 82 #[.int .i64 t105, .int .i64 t106, .int .i64 t107, .int .i64 t108, .int .i64 t109, .bool t110, .int .i64 t111, .slice Ao23 t112.length co23] (0, 0) _ rfl qy102 Tryd.underlying82 rfl (by kernel_rfl)) rfl ?_
    exact ⟨_, by first | rfl | (simp [errW_none, errW_some] <;> rfl) | (simp [*, errW_none, errW_some] <;> rfl), by (with_reducible repeat (first | apply Kd.R_alloc | apply Kd.R_drewN | apply Kd.R_drew)); exact Kd.R_mono (Kd.R_far (p := ⟨gb102, 7, none⟩) (Kd.R_far (p := ⟨gb102, 6, none⟩) (Kd.R_far (p := ⟨gb102, 5, none⟩) (Kd.R_far (p := ⟨gb102, 4, none⟩) (Kd.R_far (p := ⟨gb102, 3, none⟩) (Kd.R_far (p := ⟨gb102, 2, none⟩) (Kd.R_far (p := ⟨gb102, 1, none⟩) (Kd.R_far (p := ⟨gb102, 0, none⟩) (Kd.R_types HO114.out BK102.out (by decide)) (fun _ hk => hk.2) (.int .i64 t105)) (fun _ hk => hk.2) (.int .i64 t106)) (fun _ hk => hk.2) (.int .i64 t107)) (fun _ hk => hk.2) (.int .i64 t108)) (fun _ hk => hk.2) (.int .i64 t109)) (fun _ hk => hk.2) (.bool t110)) (fun _ hk => hk.2) (.int .i64 t111)) (fun _ hk => hk.2) (.slice Ao23 t112.length co23)) (fun _ hk => trivial), qb⟩
end Go.Proofs.YtiaccdaeomaogaaDoor.F
