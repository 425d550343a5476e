/- Texts of one claim, slimmed and merged by slim.py. -/
import Derived.Test.YtiaccdaeomaogaaDoorA4
namespace Go.Proofs.YtiaccdaeomaogaaDoor.F
open Go.RowKit Go.Proofs.YtiaccdaeomaogaaDoorW.PrintWords Go.Proofs.YtiaccdaeomaogaaDoorW.PrintLast Go.Proofs.YtiaccdaeomaogaaDoorW.PrintMore
attribute [local go_sem] max2_int min2_int max_two min_two max_three min_three max_four min_four   -- for this text's walks alone
set_option linter.unusedVariables false
set_option linter.unusedSimpArgs false
mutual
def expr_line.j0 : Nat → Int → Bool → Option (Int)
  | 0, _, _ => none
  | k + 1, x0, x9 => if x9 = true then (some 3) else (if x0 = 4 then (expr_line.j1 k x0 (x0 == 4)) else (expr_line.j1 k x0 (x0 == 5)))
def expr_line.j1 : Nat → Int → Bool → Option (Int)
  | 0, _, _ => none
  | k + 1, x0, x16 => if x16 = true then (some 4) else (if x0 ≥ 6 then (if x0 ≤ 8 then (some 5) else (some 6)) else (some 6))
end
def expr_line.f (k : Nat) (a0 : Int) : Option (Int) := if a0 = 16 then (some 1) else (if a0 = 15 then (some 2) else (if a0 ≥ 9 then (expr_line.j0 k a0 (decide (a0 ≤ 14))) else (expr_line.j0 k a0 false)))
theorem expr_line.mono_l : ∀ k, (∀ y0 y1, LeO (expr_line.j0 k y0 y1) (expr_line.j0 (k + 1) y0 y1)) ∧ (∀ y0 y1, LeO (expr_line.j1 k y0 y1) (expr_line.j1 (k + 1) y0 y1))
  | 0 => ⟨fun _ _ r h => by simp [expr_line.j0] at h, fun _ _ r h => by simp [expr_line.j1] at h⟩
  | k + 1 => by
    obtain ⟨ih0, ih1⟩ := expr_line.mono_l k
    refine ⟨?_, ?_⟩
    · intro y0 y1
      unfold expr_line.j0
      repeat' first
      | (with_reducible exact ih0 _ _)
      | (with_reducible exact ih1 _ _)
      | (with_reducible exact LeO.refl _)
      | (with_reducible exact LeO.none _)
      | (with_reducible refine LeO.ite ?_ ?_)
      | (with_reducible refine LeO.bind ?_ (fun _ => ?_))
      | exact ih0 _ _
      | exact ih1 _ _
      | exact LeO.none _
      | refine LeO.ite ?_ ?_
      | refine LeO.bind ?_ (fun _ => ?_)
    intro y0 y1
    unfold expr_line.j1
    repeat' first
    | (with_reducible exact ih0 _ _)
    | (with_reducible exact ih1 _ _)
    | (with_reducible exact LeO.refl _)
    | (with_reducible exact LeO.none _)
    | (with_reducible refine LeO.ite ?_ ?_)
    | (with_reducible refine LeO.bind ?_ (fun _ => ?_))
    | exact ih0 _ _
    | exact ih1 _ _
    | exact LeO.none _
    | refine LeO.ite ?_ ?_
    | refine LeO.bind ?_ (fun _ => ?_)
theorem expr_line.mono : ∀ a0 k, LeO (expr_line.f k a0) (expr_line.f (k + 1) a0) := by
  intro a0 k
  obtain ⟨ih0, ih1⟩ := expr_line.mono_l k
  unfold expr_line.f
  repeat' first
      | (with_reducible exact ih0 _ _)
      | (with_reducible exact ih1 _ _)
      | (with_reducible exact LeO.refl _)
      | (with_reducible exact LeO.none _)
      | (with_reducible refine LeO.ite ?_ ?_)
      | (with_reducible refine LeO.bind ?_ (fun _ => ?_))
      | exact ih0 _ _
      | exact ih1 _ _
      | exact LeO.none _
      | refine LeO.ite ?_ ?_
      | refine LeO.bind ?_ (fun _ => ?_)
set_option maxHeartbeats 8000000 in
set_option maxRecDepth 100000 in
theorem expr_line.calls (k : Nat) (a0 : Int) (r : Int) (w : World) (h : expr_line.f k a0 = some r) :
  Calls Tryd.prog 129 #[.int .i64 a0] w fun e w' => e = .returned (.int .i64 r) ∧ Drawn0 w w' := by
 have H : (if a0 = 16 then (some 1) else (if a0 = 15 then (some 2) else (if a0 ≥ 9 then (expr_line.j0 k a0 (decide (a0 ≤ 14))) else (expr_line.j0 k a0 false)))) = some r := h
 clear h
 by_cases c2 : a0 = 16
 ·rw [if_pos c2] at H
  obtain ⟨c2b0, c2b1⟩ := qe c2
  clear c2
  obtain rfl := Option.some.inj H
  go_enter Tryd.func129, Tryd.ntmps129
  go_wp2
  go_ret
  exact ⟨by first | rfl | (simp; done) | (simp [*]; done), by repeat (first | exact Drawn0.refl _ | apply Drawn0.step)⟩
 rw [if_neg c2] at H
 obtain ⟨c2b0, c2b1⟩ := qd c2
 by_cases c3 : a0 = 15
 ·rw [if_pos c3] at H
  obtain ⟨c3b0, c3b1⟩ := qe c3
  clear c3
  obtain rfl := Option.some.inj H
  go_enter Tryd.func129, Tryd.ntmps129
  go_wp2
  go_ret
  exact ⟨by first | rfl | (simp; done) | (simp [*]; done), by repeat (first | exact Drawn0.refl _ | apply Drawn0.step)⟩
 rw [if_neg c3] at H
 obtain ⟨c3b0, c3b1⟩ := qd c3
 have HC4 := Aside0.mk H
 clear H
 go_enter Tryd.func129, Tryd.ntmps129
 go_upto_region 5 with (fail)
 go_cut [9] (fun v9 wc => ∃ (kq : Nat) (x9_3 : Bool), v9 = .bool x9_3 ∧ Aside0 (expr_line.j0 kq a0 x9_3 = some r) ∧ Aside0 (kq ≤ k) ∧ Drawn0 w wc)
 case first =>
  have H := HC4.out
  clear HC4
  by_cases c5 : a0 ≥ 9
  ·rw [if_pos c5] at H
   have c5b0 : decide (9 ≤ a0) = true := decide_eq_true c5
   clear c5
   (first | rw [c5b0] | (simp only [i64_w, i32_w]; rw [c5b0]) | skip)
   have H' := Aside0.mk H
   clear H
   go_wp2
   go_meet
   case rel => exact ⟨_, (decide (a0 ≤ 14)), qv, H', ql, by repeat (first | exact Drawn0.refl _ | apply Drawn0.step)⟩
  rw [if_neg c5] at H
  have c5b0 : decide (9 ≤ a0) = false := decide_eq_false c5
  clear c5
  (first | rw [c5b0] | (simp only [i64_w, i32_w]; rw [c5b0]) | skip)
  have H' := Aside0.mk H
  clear H
  go_wp2
  go_meet
  case rel => exact ⟨_, (false), qv, H', ql, by repeat (first | exact Drawn0.refl _ | apply Drawn0.step)⟩
 clear HC4
 obtain ⟨kq, x9_3, rfl, HA, HJ3, ⟨mc3, rfl⟩⟩ := hcut
 cases kq with
 | zero => exact absurd HA.out (by simp [expr_line.j0])
 | succ kj3 =>
  have H := HA.out
  clear HA
  simp only [expr_line.j0] at H
  by_cases c6 : x9_3 = true
  ·subst c6
   rw [if_pos rfl] at H
   obtain rfl := Option.some.inj H
   go_wp2
   go_ret
   exact ⟨by first | rfl | (simp; done) | (simp [*]; done), by repeat (first | exact Drawn0.refl _ | apply Drawn0.step)⟩
  replace c6 := Bool.eq_false_iff.mpr c6
  subst c6
  rw [if_neg qf] at H
  have HC7 := Aside0.mk H
  clear H
  go_upto_if 16 with (fail)
  go_cut [16] (fun v16 wc => ∃ (kq : Nat) (x16_6 : Bool), v16 = .bool x16_6 ∧ Aside0 (expr_line.j1 kq a0 x16_6 = some r) ∧ Aside0 (kq ≤ kj3) ∧ Drawn0 w wc)
  case first =>
   have H := HC7.out
   clear HC7
   by_cases c8 : a0 = 4
   ·rw [if_pos c8] at H
    obtain ⟨c8b0, c8b1⟩ := qe c8
    clear c8
    (first | rw [c8b0] | (simp only [i64_w, i32_w]; rw [c8b0]) | skip)
    have H' := Aside0.mk H
    clear H
    go_wp2
    go_meet
    case rel => exact ⟨_, ((a0 == 4)), qv, H', ⟨by have := HJ3.out; first | omega | exact Nat.le_refl _⟩, by repeat (first | exact Drawn0.refl _ | apply Drawn0.step)⟩
   rw [if_neg c8] at H
   obtain ⟨c8b0, c8b1⟩ := qd c8
   (first | rw [c8b0] | (simp only [i64_w, i32_w]; rw [c8b0]) | skip)
   have H' := Aside0.mk H
   clear H
   go_wp2
   go_meet
   case rel => exact ⟨_, ((a0 == 5)), qv, H', ⟨by have := HJ3.out; first | omega | exact Nat.le_refl _⟩, by repeat (first | exact Drawn0.refl _ | apply Drawn0.step)⟩
  clear HC7
  obtain ⟨kq, x16_6, rfl, HA, HJ6, ⟨mc6, rfl⟩⟩ := hcut
  cases kq with
  | zero => exact absurd HA.out (by simp [expr_line.j1])
  | succ kj6 =>
   have H := HA.out
   clear HA
   simp only [expr_line.j1] at H
   by_cases c9 : x16_6 = true
   ·subst c9
    rw [if_pos rfl] at H
    obtain rfl := Option.some.inj H
    go_wp2
    go_ret
    exact ⟨by first | rfl | (simp; done) | (simp [*]; done), by repeat (first | exact Drawn0.refl _ | apply Drawn0.step)⟩
   replace c9 := Bool.eq_false_iff.mpr c9
   subst c9
   rw [if_neg qf] at H
   by_cases c10 : a0 ≥ 6
   ·rw [if_pos c10] at H
    have c10b0 : decide (6 ≤ a0) = true := decide_eq_true c10
    clear c10
    by_cases c11 : a0 ≤ 8
    ·rw [if_pos c11] at H
     have c11b0 : decide (a0 ≤ 8) = true := decide_eq_true c11
     clear c11
     obtain rfl := Option.some.inj H
     go_wp2
     go_ret
     exact ⟨by first | rfl | (simp; done) | (simp [*]; done), by repeat (first | exact Drawn0.refl _ | apply Drawn0.step)⟩
    rw [if_neg c11] at H
    have c11b0 : decide (a0 ≤ 8) = false := decide_eq_false c11
    clear c11
    obtain rfl := Option.some.inj H
    go_wp2
    go_ret
    exact ⟨by first | rfl | (simp; done) | (simp [*]; done), by repeat (first | exact Drawn0.refl _ | apply Drawn0.step)⟩
   rw [if_neg c10] at H
   have c10b0 : decide (6 ≤ a0) = false := decide_eq_false c10
   clear c10
   obtain rfl := Option.some.inj H
   go_wp2
   go_ret
   exact ⟨by first | rfl | (simp; done) | (simp [*]; done), by repeat (first | exact Drawn0.refl _ | apply Drawn0.step)⟩
def expr_wrapped.f (k : Nat) (a0_0 : Int) (a0_1 : Int) (a0_2 : ByteArray) (l0_3 : List (S34)) (a1 : Int) : Option (Bool) := (expr_line.f k a0_0).bind fun t102 => (if 0 ≤ a1 then (if a1 < (l0_3.length : Int) then ((expr_line.f k ((rd_T34 l0_3 a1).f0)).bind fun t104 => (if t104 < t102 then (some true) else (if t104 = t102 then (if t102 < 6 then (if a1 = 1 then (some true) else (some (t102 == 3))) else (some false)) else (some false)))) else (none)) else (none))
theorem expr_wrapped.mono : ∀ a0 a1 a2 a3 a4 k, LeO (expr_wrapped.f k a0 a1 a2 a3 a4) (expr_wrapped.f (k + 1) a0 a1 a2 a3 a4) := by
  intro a0 a1 a2 a3 a4 k
  unfold expr_wrapped.f
  repeat' first
      | (with_reducible exact expr_line.mono _ _)
      | (with_reducible exact LeO.refl _)
      | (with_reducible exact LeO.none _)
      | (with_reducible refine LeO.ite ?_ ?_)
      | (with_reducible refine LeO.bind ?_ (fun _ => ?_))
      | exact expr_line.mono _ _
      | exact LeO.none _
      | refine LeO.ite ?_ ?_
      | refine LeO.bind ?_ (fun _ => ?_)
set_option maxHeartbeats 8000000 in
set_option maxRecDepth 100000 in
theorem expr_wrapped.calls (k : Nat) (a0_0 : Int) (a0_1 : Int) (a0_2 : ByteArray) (A0_3 : Option Addr) (c0_3 : Nat) (l0_3 : List (S34)) (a1 : Int) (r : Bool) (w : World) (hr0_3 : Kd.C k34 w A0_3 l0_3.length l0_3) (hc0_3 : l0_3.length ≤ c0_3) (h : expr_wrapped.f k a0_0 a0_1 a0_2 l0_3 a1 = some r) :
  Calls Tryd.prog 96 #[.agg #[.int .i64 a0_0, .int .i64 a0_1, .string a0_2, .slice A0_3 l0_3.length c0_3], .int .i64 a1] w fun e w' => e = .returned (.bool r) ∧ Below w.heap.size w w' := by
 have hu34 := Tryd.underlying34
 have HR0_3 := Aside0.mk hr0_3
 have HC0_3 := Aside0.mk hc0_3
 clear hr0_3 hc0_3
 have HB := Aside0.mk (Below.refl w.heap.size w)
 have H : ((expr_line.f k a0_0).bind fun t102 => (if 0 ≤ a1 then (if a1 < (l0_3.length : Int) then ((expr_line.f k ((rd_T34 l0_3 a1).f0)).bind fun t104 => (if t104 < t102 then (some true) else (if t104 = t102 then (if t102 < 6 then (if a1 = 1 then (some true) else (some (t102 == 3))) else (some false)) else (some false)))) else (none)) else (none))) = some r := h
 clear h
 replace H := qi H
 obtain ⟨t102, A3, H⟩ := H
 by_cases c4 : 0 ≤ a1
 ·rw [if_pos c4] at H
  have c4b0 : decide (0 ≤ a1) = true := decide_eq_true c4
  clear c4
  by_cases c5 : a1 < (l0_3.length : Int)
  ·rw [if_pos c5] at H
   have c5b0 : decide (a1 < (l0_3.length : Int)) = true := decide_eq_true c5
   clear c5
   replace H := qi H
   obtain ⟨t104, A6, H⟩ := H
   by_cases c7 : t104 < t102
   ·rw [if_pos c7] at H
    have c7b0 : decide (t104 < t102) = true := decide_eq_true c7
    clear c7
    obtain rfl := Option.some.inj H
    go_enter Tryd.func96, Tryd.ntmps96
    go_wp2_with (first | ((with_reducible refine gate_dst (N := 2) rfl ?_); refine box_event ?hg (N := 2) ?hd (cs := #[.int .i64 a0_0, .int .i64 a0_1, .string a0_2, .slice A0_3 l0_3.length c0_3]) (t := 34) ?hr ?_; (case hd => rfl); (case hg => rfl); (case hr => first | (go_simp; done) | (go_simp; rfl)); intro gb101 hg w8 hbox hb; have n0_ := qs hb; have n1_ := Aside0.mk (hbox); have n2_ := Aside0.mk ((by rw [hg]; exact (below_size qb) : w.heap.size ≤ gb101)); have n3_ := Aside0.mk ((by rw [hg]; exact (below_size qb) : w.heap.size ≤ gb101)); clear HB; have HB := n0_; have BK101 := n1_; have GW101 := n2_; have GE101 := n3_; clear n0_ n1_ n2_ n3_; clear hb hbox hg; obtain ⟨_, _, _, _, _, _, _, _⟩ := q4 BK101.out) | (go_at_call 129; (with_reducible refine (expr_line.calls k a0_0 t102 _ A3.out).mono ?_); rintro e w' ⟨rfl, ⟨nd, rfl⟩⟩; (try first | exact qw | exact ⟨rfl, _, Eq.trans (World.drewN_drewN _ _ _) (congrArg (World.drewN _) (Nat.add_assoc _ _ _))⟩); have p103 : 0 ≤ (a1 : Int) := qa; have q103 : a1 < (l0_3.length : Int) := qa; obtain ⟨ad103, A103_3, c103_3, e103, hx103_0, hx103_1, hx103_2, hx103_3, hl103_3, hi103_3⟩ := at_T34 HR0_3.out a1 p103 q103; cases e103; replace hx103_0 := qc HB.out hx103_0; replace hx103_1 := qc HB.out hx103_1; replace hx103_2 := qc HB.out hx103_2; replace hx103_3 := qc HB.out hx103_3; have HR103_3 := Aside0.mk hi103_3; have HC103_3 := Aside0.mk hl103_3; clear hi103_3 hl103_3; replace p103 := eq_true p103; replace q103 := eq_true q103) | (go_at_call 129; (with_reducible refine (expr_line.calls k ((rd_T34 l0_3 a1).f0) t104 _ A6.out).mono ?_); rintro e w' ⟨rfl, ⟨nd, rfl⟩⟩; (try first | exact qw | exact ⟨rfl, _, Eq.trans (World.drewN_drewN _ _ _) (congrArg (World.drewN _) (Nat.add_assoc _ _ _))⟩)))
    repeat (go_quiet (first | ((with_reducible refine gate_dst (N := 2) rfl ?_); refine box_event ?hg (N := 2) ?hd (cs := #[.int .i64 a0_0, .int .i64 a0_1, .string a0_2, .slice A0_3 l0_3.length c0_3]) (t := 34) ?hr ?_; (case hd => rfl); (case hg => rfl); (case hr => first | (go_simp; done) | (go_simp; rfl)); intro gb101 hg w8 hbox hb; have n0_ := qs hb; have n1_ := Aside0.mk (hbox); have n2_ := Aside0.mk ((by rw [hg]; exact (below_size qb) : w.heap.size ≤ gb101)); have n3_ := Aside0.mk ((by rw [hg]; exact (below_size qb) : w.heap.size ≤ gb101)); clear HB; have HB := n0_; have BK101 := n1_; have GW101 := n2_; have GE101 := n3_; clear n0_ n1_ n2_ n3_; clear hb hbox hg; obtain ⟨_, _, _, _, _, _, _, _⟩ := q4 BK101.out) | (go_at_call 129; (with_reducible refine (expr_line.calls k a0_0 t102 _ A3.out).mono ?_); rintro e w' ⟨rfl, ⟨nd, rfl⟩⟩; (try first | exact qw | exact ⟨rfl, _, Eq.trans (World.drewN_drewN _ _ _) (congrArg (World.drewN _) (Nat.add_assoc _ _ _))⟩); have p103 : 0 ≤ (a1 : Int) := qa; have q103 : a1 < (l0_3.length : Int) := qa; obtain ⟨ad103, A103_3, c103_3, e103, hx103_0, hx103_1, hx103_2, hx103_3, hl103_3, hi103_3⟩ := at_T34 HR0_3.out a1 p103 q103; cases e103; replace hx103_0 := qc HB.out hx103_0; replace hx103_1 := qc HB.out hx103_1; replace hx103_2 := qc HB.out hx103_2; replace hx103_3 := qc HB.out hx103_3; have HR103_3 := Aside0.mk hi103_3; have HC103_3 := Aside0.mk hl103_3; clear hi103_3 hl103_3; replace p103 := eq_true p103; replace q103 := eq_true q103) | (go_at_call 129; (with_reducible refine (expr_line.calls k ((rd_T34 l0_3 a1).f0) t104 _ A6.out).mono ?_); rintro e w' ⟨rfl, ⟨nd, rfl⟩⟩; (try first | exact qw | exact ⟨rfl, _, Eq.trans (World.drewN_drewN _ _ _) (congrArg (World.drewN _) (Nat.add_assoc _ _ _))⟩))); try go_wp2_with (first | ((with_reducible refine gate_dst (N := 2) rfl ?_); refine box_event ?hg (N := 2) ?hd (cs := #[.int .i64 a0_0, .int .i64 a0_1, .string a0_2, .slice A0_3 l0_3.length c0_3]) (t := 34) ?hr ?_; (case hd => rfl); (case hg => rfl); (case hr => first | (go_simp; done) | (go_simp; rfl)); intro gb101 hg w8 hbox hb; have n0_ := qs hb; have n1_ := Aside0.mk (hbox); have n2_ := Aside0.mk ((by rw [hg]; exact (below_size qb) : w.heap.size ≤ gb101)); have n3_ := Aside0.mk ((by rw [hg]; exact (below_size qb) : w.heap.size ≤ gb101)); clear HB; have HB := n0_; have BK101 := n1_; have GW101 := n2_; have GE101 := n3_; clear n0_ n1_ n2_ n3_; clear hb hbox hg; obtain ⟨_, _, _, _, _, _, _, _⟩ := q4 BK101.out) | (go_at_call 129; (with_reducible refine (expr_line.calls k a0_0 t102 _ A3.out).mono ?_); rintro e w' ⟨rfl, ⟨nd, rfl⟩⟩; (try first | exact qw | exact ⟨rfl, _, Eq.trans (World.drewN_drewN _ _ _) (congrArg (World.drewN _) (Nat.add_assoc _ _ _))⟩); have p103 : 0 ≤ (a1 : Int) := qa; have q103 : a1 < (l0_3.length : Int) := qa; obtain ⟨ad103, A103_3, c103_3, e103, hx103_0, hx103_1, hx103_2, hx103_3, hl103_3, hi103_3⟩ := at_T34 HR0_3.out a1 p103 q103; cases e103; replace hx103_0 := qc HB.out hx103_0; replace hx103_1 := qc HB.out hx103_1; replace hx103_2 := qc HB.out hx103_2; replace hx103_3 := qc HB.out hx103_3; have HR103_3 := Aside0.mk hi103_3; have HC103_3 := Aside0.mk hl103_3; clear hi103_3 hl103_3; replace p103 := eq_true p103; replace q103 := eq_true q103) | (go_at_call 129; (with_reducible refine (expr_line.calls k ((rd_T34 l0_3 a1).f0) t104 _ A6.out).mono ?_); rintro e w' ⟨rfl, ⟨nd, rfl⟩⟩; (try first | exact qw | exact ⟨rfl, _, Eq.trans (World.drewN_drewN _ _ _) (congrArg (World.drewN _) (Nat.add_assoc _ _ _))⟩))))
    go_ret
    exact qr
   rw [if_neg c7] at H
   have c7b0 : decide (t104 < t102) = false := decide_eq_false c7
   clear c7
   by_cases c10 : t104 = t102
   ·rw [if_pos c10] at H
    obtain ⟨c10b0, c10b1⟩ := qe c10
    clear c10
    by_cases c11 : t102 < 6
    ·rw [if_pos c11] at H
     have c11b0 : decide (t102 < 6) = true := decide_eq_true c11
     clear c11
     by_cases c12 : a1 = 1
     ·rw [if_pos c12] at H
      obtain ⟨c12b0, c12b1⟩ := qe c12
      clear c12
      obtain rfl := Option.some.inj H
      go_enter Tryd.func96, Tryd.ntmps96
      go_wp2_with (first | ((with_reducible refine gate_dst (N := 2) rfl ?_); refine box_event ?hg (N := 2) ?hd (cs := #[.int .i64 a0_0, .int .i64 a0_1, .string a0_2, .slice A0_3 l0_3.length c0_3]) (t := 34) ?hr ?_; (case hd => rfl); (case hg => rfl); (case hr => first | (go_simp; done) | (go_simp; rfl)); intro gb101 hg w13 hbox hb; have n0_ := qs hb; have n1_ := Aside0.mk (hbox); have n2_ := Aside0.mk ((by rw [hg]; exact (below_size qb) : w.heap.size ≤ gb101)); have n3_ := Aside0.mk ((by rw [hg]; exact (below_size qb) : w.heap.size ≤ gb101)); clear HB; have HB := n0_; have BK101 := n1_; have GW101 := n2_; have GE101 := n3_; clear n0_ n1_ n2_ n3_; clear hb hbox hg; obtain ⟨_, _, _, _, _, _, _, _⟩ := q4 BK101.out) | (go_at_call 129; (with_reducible refine (expr_line.calls k a0_0 t102 _ A3.out).mono ?_); rintro e w' ⟨rfl, ⟨nd, rfl⟩⟩; (try first | exact qw | exact ⟨rfl, _, Eq.trans (World.drewN_drewN _ _ _) (congrArg (World.drewN _) (Nat.add_assoc _ _ _))⟩); have p103 : 0 ≤ (a1 : Int) := qa; have q103 : a1 < (l0_3.length : Int) := qa; obtain ⟨ad103, A103_3, c103_3, e103, hx103_0, hx103_1, hx103_2, hx103_3, hl103_3, hi103_3⟩ := at_T34 HR0_3.out a1 p103 q103; cases e103; replace hx103_0 := qc HB.out hx103_0; replace hx103_1 := qc HB.out hx103_1; replace hx103_2 := qc HB.out hx103_2; replace hx103_3 := qc HB.out hx103_3; have HR103_3 := Aside0.mk hi103_3; have HC103_3 := Aside0.mk hl103_3; clear hi103_3 hl103_3; replace p103 := eq_true p103; replace q103 := eq_true q103) | (go_at_call 129; (with_reducible refine (expr_line.calls k ((rd_T34 l0_3 a1).f0) t104 _ A6.out).mono ?_); rintro e w' ⟨rfl, ⟨nd, rfl⟩⟩; (try first | exact qw | exact ⟨rfl, _, Eq.trans (World.drewN_drewN _ _ _) (congrArg (World.drewN _) (Nat.add_assoc _ _ _))⟩)))
      repeat (go_quiet (first | ((with_reducible refine gate_dst (N := 2) rfl ?_); refine box_event ?hg (N := 2) ?hd (cs := #[.int .i64 a0_0, .int .i64 a0_1, .string a0_2, .slice A0_3 l0_3.length c0_3]) (t := 34) ?hr ?_; (case hd => rfl); (case hg => rfl); (case hr => first | (go_simp; done) | (go_simp; rfl)); intro gb101 hg w13 hbox hb; have n0_ := qs hb; have n1_ := Aside0.mk (hbox); have n2_ := Aside0.mk ((by rw [hg]; exact (below_size qb) : w.heap.size ≤ gb101)); have n3_ := Aside0.mk ((by rw [hg]; exact (below_size qb) : w.heap.size ≤ gb101)); clear HB; have HB := n0_; have BK101 := n1_; have GW101 := n2_; have GE101 := n3_; clear n0_ n1_ n2_ n3_; clear hb hbox hg; obtain ⟨_, _, _, _, _, _, _, _⟩ := q4 BK101.out) | (go_at_call 129; (with_reducible refine (expr_line.calls k a0_0 t102 _ A3.out).mono ?_); rintro e w' ⟨rfl, ⟨nd, rfl⟩⟩; (try first | exact qw | exact ⟨rfl, _, Eq.trans (World.drewN_drewN _ _ _) (congrArg (World.drewN _) (Nat.add_assoc _ _ _))⟩); have p103 : 0 ≤ (a1 : Int) := qa; have q103 : a1 < (l0_3.length : Int) := qa; obtain ⟨ad103, A103_3, c103_3, e103, hx103_0, hx103_1, hx103_2, hx103_3, hl103_3, hi103_3⟩ := at_T34 HR0_3.out a1 p103 q103; cases e103; replace hx103_0 := qc HB.out hx103_0; replace hx103_1 := qc HB.out hx103_1; replace hx103_2 := qc HB.out hx103_2; replace hx103_3 := qc HB.out hx103_3; have HR103_3 := Aside0.mk hi103_3; have HC103_3 := Aside0.mk hl103_3; clear hi103_3 hl103_3; replace p103 := eq_true p103; replace q103 := eq_true q103) | (go_at_call 129; (with_reducible refine (expr_line.calls k ((rd_T34 l0_3 a1).f0) t104 _ A6.out).mono ?_); rintro e w' ⟨rfl, ⟨nd, rfl⟩⟩; (try first | exact qw | exact ⟨rfl, _, Eq.trans (World.drewN_drewN _ _ _) (congrArg (World.drewN _) (Nat.add_assoc _ _ _))⟩))); try go_wp2_with (first | ((with_reducible refine gate_dst (N := 2) rfl ?_); refine box_event ?hg (N := 2) ?hd (cs := #[.int .i64 a0_0, .int .i64 a0_1, .string a0_2, .slice A0_3 l0_3.length c0_3]) (t := 34) ?hr ?_; (case hd => rfl); (case hg => rfl); (case hr => first | (go_simp; done) | (go_simp; rfl)); intro gb101 hg w13 hbox hb; have n0_ := qs hb; have n1_ := Aside0.mk (hbox); have n2_ := Aside0.mk ((by rw [hg]; exact (below_size qb) : w.heap.size ≤ gb101)); have n3_ := Aside0.mk ((by rw [hg]; exact (below_size qb) : w.heap.size ≤ gb101)); clear HB; have HB := n0_; have BK101 := n1_; have GW101 := n2_; have GE101 := n3_; clear n0_ n1_ n2_ n3_; clear hb hbox hg; obtain ⟨_, _, _, _, _, _, _, _⟩ := q4 BK101.out) | (go_at_call 129; (with_reducible refine (expr_line.calls k a0_0 t102 _ A3.out).mono ?_); rintro e w' ⟨rfl, ⟨nd, rfl⟩⟩; (try first | exact qw | exact ⟨rfl, _, Eq.trans (World.drewN_drewN _ _ _) (congrArg (World.drewN _) (Nat.add_assoc _ _ _))⟩); have p103 : 0 ≤ (a1 : Int) := qa; have q103 : a1 < (l0_3.length : Int) := qa; obtain ⟨ad103, A103_3, c103_3, e103, hx103_0, hx103_1, hx103_2, hx103_3, hl103_3, hi103_3⟩ := at_T34 HR0_3.out a1 p103 q103; cases e103; replace hx103_0 := qc HB.out hx103_0; replace hx103_1 := qc HB.out hx103_1; replace hx103_2 := qc HB.out hx103_2; replace hx103_3 := qc HB.out hx103_3; have HR103_3 := Aside0.mk hi103_3; have HC103_3 := Aside0.mk hl103_3; clear hi103_3 hl103_3; replace p103 := eq_true p103; replace q103 := eq_true q103) | (go_at_call 129; (with_reducible refine (expr_line.calls k ((rd_T34 l0_3 a1).f0) t104 _ A6.out).mono ?_); rintro e w' ⟨rfl, ⟨nd, rfl⟩⟩; (try first | exact qw | exact ⟨rfl, _, Eq.trans (World.drewN_drewN _ _ _) (congrArg (World.drewN _) (Nat.add_assoc _ _ _))⟩))))
      go_ret
      exact qr
     rw [if_neg c12] at H
     obtain ⟨c12b0, c12b1⟩ := qd c12
     obtain rfl := Option.some.inj H
     go_enter Tryd.func96, Tryd.ntmps96
     go_wp2_with (first | ((with_reducible refine gate_dst (N := 2) rfl ?_); refine box_event ?hg (N := 2) ?hd (cs := #[.int .i64 a0_0, .int .i64 a0_1, .string a0_2, .slice A0_3 l0_3.length c0_3]) (t := 34) ?hr ?_; (case hd => rfl); (case hg => rfl); (case hr => first | (go_simp; done) | (go_simp; rfl)); intro gb101 hg w15 hbox hb; have n0_ := qs hb; have n1_ := Aside0.mk (hbox); have n2_ := Aside0.mk ((by rw [hg]; exact (below_size qb) : w.heap.size ≤ gb101)); have n3_ := Aside0.mk ((by rw [hg]; exact (below_size qb) : w.heap.size ≤ gb101)); clear HB; have HB := n0_; have BK101 := n1_; have GW101 := n2_; have GE101 := n3_; clear n0_ n1_ n2_ n3_; clear hb hbox hg; obtain ⟨_, _, _, _, _, _, _, _⟩ := q4 BK101.out) | (go_at_call 129; (with_reducible refine (expr_line.calls k a0_0 t102 _ A3.out).mono ?_); rintro e w' ⟨rfl, ⟨nd, rfl⟩⟩; (try first | exact qw | exact ⟨rfl, _, Eq.trans (World.drewN_drewN _ _ _) (congrArg (World.drewN _) (Nat.add_assoc _ _ _))⟩); have p103 : 0 ≤ (a1 : Int) := qa; have q103 : a1 < (l0_3.length : Int) := qa; obtain ⟨ad103, A103_3, c103_3, e103, hx103_0, hx103_1, hx103_2, hx103_3, hl103_3, hi103_3⟩ := at_T34 HR0_3.out a1 p103 q103; cases e103; replace hx103_0 := qc HB.out hx103_0; replace hx103_1 := qc HB.out hx103_1; replace hx103_2 := qc HB.out hx103_2; replace hx103_3 := qc HB.out hx103_3; have HR103_3 := Aside0.mk hi103_3; have HC103_3 := Aside0.mk hl103_3; clear hi103_3 hl103_3; replace p103 := eq_true p103; replace q103 := eq_true q103) | (go_at_call 129; (with_reducible refine (expr_line.calls k ((rd_T34 l0_3 a1).f0) t104 _ A6.out).mono ?_); rintro e w' ⟨rfl, ⟨nd, rfl⟩⟩; (try first | exact qw | exact ⟨rfl, _, Eq.trans (World.drewN_drewN _ _ _) (congrArg (World.drewN _) (Nat.add_assoc _ _ _))⟩)))
     repeat (go_quiet (first | ((with_reducible refine gate_dst (N := 2) rfl ?_); refine box_event ?hg (N := 2) ?hd (cs := #[.int .i64 a0_0, .int .i64 a0_1, .string a0_2, .slice A0_3 l0_3.length c0_3]) (t := 34) ?hr ?_; (case hd => rfl); (case hg => rfl); (case hr => first | (go_simp; done) | (go_simp; rfl)); intro gb101 hg w15 hbox hb; have n0_ := qs hb; have n1_ := Aside0.mk (hbox); have n2_ := Aside0.mk ((by rw [hg]; exact (below_size qb) : w.heap.size ≤ gb101)); have n3_ := Aside0.mk ((by rw [hg]; exact (below_size qb) : w.heap.size ≤ gb101)); clear HB; have HB := n0_; have BK101 := n1_; have GW101 := n2_; have GE101 := n3_; clear n0_ n1_ n2_ n3_; clear hb hbox hg; obtain ⟨_, _, _, _, _, _, _, _⟩ := q4 BK101.out) | (go_at_call 129; (with_reducible refine (expr_line.calls k a0_0 t102 _ A3.out).mono ?_); rintro e w' ⟨rfl, ⟨nd, rfl⟩⟩; (try first | exact qw | exact ⟨rfl, _, Eq.trans (World.drewN_drewN _ _ _) (congrArg (World.drewN _) (Nat.add_assoc _ _ _))⟩); have p103 : 0 ≤ (a1 : Int) := qa; have q103 : a1 < (l0_3.length : Int) := qa; obtain ⟨ad103, A103_3, c103_3, e103, hx103_0, hx103_1, hx103_2, hx103_3, hl103_3, hi103_3⟩ := at_T34 HR0_3.out a1 p103 q103; cases e103; replace hx103_0 := qc HB.out hx103_0; replace hx103_1 := qc HB.out hx103_1; replace hx103_2 := qc HB.out hx103_2; replace hx103_3 := qc HB.out hx103_3; have HR103_3 := Aside0.mk hi103_3; have HC103_3 := Aside0.mk hl103_3; clear hi103_3 hl103_3; replace p103 := eq_true p103; replace q103 := eq_true q103) | (go_at_call 129; (with_reducible refine (expr_line.calls k ((rd_T34 l0_3 a1).f0) t104 _ A6.out).mono ?_); rintro e w' ⟨rfl, ⟨nd, rfl⟩⟩; (try first | exact qw | exact ⟨rfl, _, Eq.trans (World.drewN_drewN _ _ _) (congrArg (World.drewN _) (Nat.add_assoc _ _ _))⟩))); try go_wp2_with (first | ((with_reducible refine gate_dst (N := 2) rfl ?_); refine box_event ?hg (N := 2) ?hd (cs := #[.int .i64 a0_0, .int .i64 a0_1, .string a0_2, .slice A0_3 l0_3.length c0_3]) (t := 34) ?hr ?_; (case hd => rfl); (case hg => rfl); (case hr => first | (go_simp; done) | (go_simp; rfl)); intro gb101 hg w15 hbox hb; have n0_ := qs hb; have n1_ := Aside0.mk (hbox); have n2_ := Aside0.mk ((by rw [hg]; exact (below_size qb) : w.heap.size ≤ gb101)); have n3_ := Aside0.mk ((by rw [hg]; exact (below_size qb) : w.heap.size ≤ gb101)); clear HB; have HB := n0_; have BK101 := n1_; have GW101 := n2_; have GE101 := n3_; clear n0_ n1_ n2_ n3_; clear hb hbox hg; obtain ⟨_, _, _, _, _, _, _, _⟩ := q4 BK101.out) | (go_at_call 129; (with_reducible refine (expr_line.calls k a0_0 t102 _ A3.out).mono ?_); rintro e w' ⟨rfl, ⟨nd, rfl⟩⟩; (try first | exact qw | exact ⟨rfl, _, Eq.trans (World.drewN_drewN _ _ _) (congrArg (World.drewN _) (Nat.add_assoc _ _ _))⟩); have p103 : 0 ≤ (a1 : Int) := qa; have q103 : a1 < (l0_3.length : Int) := qa; obtain ⟨ad103, A103_3, c103_3, e103, hx103_0, hx103_1, hx103_2, hx103_3, hl103_3, hi103_3⟩ := at_T34 HR0_3.out a1 p103 q103; cases e103; replace hx103_0 := qc HB.out hx103_0; replace hx103_1 := qc HB.out hx103_1; replace hx103_2 := qc HB.out hx103_2; replace hx103_3 := qc HB.out hx103_3; have HR103_3 := Aside0.mk hi103_3; have HC103_3 := Aside0.mk hl103_3; clear hi103_3 hl103_3; replace p103 := eq_true p103; replace q103 := eq_true q103) | (go_at_call 129; (with_reducible refine (expr_line.calls k ((rd_T34 l0_3 a1).f0) t104 _ A6.out).mono ?_); rintro e w' ⟨rfl, ⟨nd, rfl⟩⟩; (try first | exact qw | exact ⟨rfl, _, Eq.trans (World.drewN_drewN _ _ _) (congrArg (World.drewN _) (Nat.add_assoc _ _ _))⟩))))
     go_ret
     exact qr
    rw [if_neg c11] at H
    have c11b0 : decide (t102 < 6) = false := decide_eq_false c11
    clear c11
    obtain rfl := Option.some.inj H
    go_enter Tryd.func96, Tryd.ntmps96
    go_wp2_with (first | ((with_reducible refine gate_dst (N := 2) rfl ?_); refine box_event ?hg (N := 2) ?hd (cs := #[.int .i64 a0_0, .int .i64 a0_1, .string a0_2, .slice A0_3 l0_3.length c0_3]) (t := 34) ?hr ?_; (case hd => rfl); (case hg => rfl); (case hr => first | (go_simp; done) | (go_simp; rfl)); intro gb101 hg w17 hbox hb; have n0_ := qs hb; have n1_ := Aside0.mk (hbox); have n2_ := Aside0.mk ((by rw [hg]; exact (below_size qb) : w.heap.size ≤ gb101)); have n3_ := Aside0.mk ((by rw [hg]; exact (below_size qb) : w.heap.size ≤ gb101)); clear HB; have HB := n0_; have BK101 := n1_; have GW101 := n2_; have GE101 := n3_; clear n0_ n1_ n2_ n3_; clear hb hbox hg; obtain ⟨_, _, _, _, _, _, _, _⟩ := q4 BK101.out) | (go_at_call 129; (with_reducible refine (expr_line.calls k a0_0 t102 _ A3.out).mono ?_); rintro e w' ⟨rfl, ⟨nd, rfl⟩⟩; (try first | exact qw | exact ⟨rfl, _, Eq.trans (World.drewN_drewN _ _ _) (congrArg (World.drewN _) (Nat.add_assoc _ _ _))⟩); have p103 : 0 ≤ (a1 : Int) := qa; have q103 : a1 < (l0_3.length : Int) := qa; obtain ⟨ad103, A103_3, c103_3, e103, hx103_0, hx103_1, hx103_2, hx103_3, hl103_3, hi103_3⟩ := at_T34 HR0_3.out a1 p103 q103; cases e103; replace hx103_0 := qc HB.out hx103_0; replace hx103_1 := qc HB.out hx103_1; replace hx103_2 := qc HB.out hx103_2; replace hx103_3 := qc HB.out hx103_3; have HR103_3 := Aside0.mk hi103_3; have HC103_3 := Aside0.mk hl103_3; clear hi103_3 hl103_3; replace p103 := eq_true p103; replace q103 := eq_true q103) | (go_at_call 129; (with_reducible refine (expr_line.calls k ((rd_T34 l0_3 a1).f0) t104 _ A6.out).mono ?_); rintro e w' ⟨rfl, ⟨nd, rfl⟩⟩; (try first | exact qw | exact ⟨rfl, _, Eq.trans (World.drewN_drewN _ _ _) (congrArg (World.drewN _) (Nat.add_assoc _ _ _))⟩)))
    repeat (go_quiet (first | ((with_reducible refine gate_dst (N := 2) rfl ?_); refine box_event ?hg (N := 2) ?hd (cs := #[.int .i64 a0_0, .int .i64 a0_1, .string a0_2, .slice A0_3 l0_3.length c0_3]) (t := 34) ?hr ?_; (case hd => rfl); (case hg => rfl); (case hr => first | (go_simp; done) | (go_simp; rfl)); intro gb101 hg w17 hbox hb; have n0_ := qs hb; have n1_ := Aside0.mk (hbox); have n2_ := Aside0.mk ((by rw [hg]; exact (below_size qb) : w.heap.size ≤ gb101)); have n3_ := Aside0.mk ((by rw [hg]; exact (below_size qb) : w.heap.size ≤ gb101)); clear HB; have HB := n0_; have BK101 := n1_; have GW101 := n2_; have GE101 := n3_; clear n0_ n1_ n2_ n3_; clear hb hbox hg; obtain ⟨_, _, _, _, _, _, _, _⟩ := q4 BK101.out) | (go_at_call 129; (with_reducible refine (expr_line.calls k a0_0 t102 _ A3.out).mono ?_); rintro e w' ⟨rfl, ⟨nd, rfl⟩⟩; (try first | exact qw | exact ⟨rfl, _, Eq.trans (World.drewN_drewN _ _ _) (congrArg (World.drewN _) (Nat.add_assoc _ _ _))⟩); have p103 : 0 ≤ (a1 : Int) := qa; have q103 : a1 < (l0_3.length : Int) := qa; obtain ⟨ad103, A103_3, c103_3, e103, hx103_0, hx103_1, hx103_2, hx103_3, hl103_3, hi103_3⟩ := at_T34 HR0_3.out a1 p103 q103; cases e103; replace hx103_0 := qc HB.out hx103_0; replace hx103_1 := qc HB.out hx103_1; replace hx103_2 := qc HB.out hx103_2; replace hx103_3 := qc HB.out hx103_3; have HR103_3 := Aside0.mk hi103_3; have HC103_3 := Aside0.mk hl103_3; clear hi103_3 hl103_3; replace p103 := eq_true p103; replace q103 := eq_true q103) | (go_at_call 129; (with_reducible refine (expr_line.calls k ((rd_T34 l0_3 a1).f0) t104 _ A6.out).mono ?_); rintro e w' ⟨rfl, ⟨nd, rfl⟩⟩; (try first | exact qw | exact ⟨rfl, _, Eq.trans (World.drewN_drewN _ _ _) (congrArg (World.drewN _) (Nat.add_assoc _ _ _))⟩))); try go_wp2_with (first | ((with_reducible refine gate_dst (N := 2) rfl ?_); refine box_event ?hg (N := 2) ?hd (cs := #[.int .i64 a0_0, .int .i64 a0_1, .string a0_2, .slice A0_3 l0_3.length c0_3]) (t := 34) ?hr ?_; (case hd => rfl); (case hg => rfl); (case hr => first | (go_simp; done) | (go_simp; rfl)); intro gb101 hg w17 hbox hb; have n0_ := qs hb; have n1_ := Aside0.mk (hbox); have n2_ := Aside0.mk ((by rw [hg]; exact (below_size qb) : w.heap.size ≤ gb101)); have n3_ := Aside0.mk ((by rw [hg]; exact (below_size qb) : w.heap.size ≤ gb101)); clear HB; have HB := n0_; have BK101 := n1_; have GW101 := n2_; have GE101 := n3_; clear n0_ n1_ n2_ n3_; clear hb hbox hg; obtain ⟨_, _, _, _, _, _, _, _⟩ := q4 BK101.out) | (go_at_call 129; (with_reducible refine (expr_line.calls k a0_0 t102 _ A3.out).mono ?_); rintro e w' ⟨rfl, ⟨nd, rfl⟩⟩; (try first | exact qw | exact ⟨rfl, _, Eq.trans (World.drewN_drewN _ _ _) (congrArg (World.drewN _) (Nat.add_assoc _ _ _))⟩); have p103 : 0 ≤ (a1 : Int) := qa; have q103 : a1 < (l0_3.length : Int) := qa; obtain ⟨ad103, A103_3, c103_3, e103, hx103_0, hx103_1, hx103_2, hx103_3, hl103_3, hi103_3⟩ := at_T34 HR0_3.out a1 p103 q103; cases e103; replace hx103_0 := qc HB.out hx103_0; replace hx103_1 := qc HB.out hx103_1; replace hx103_2 := qc HB.out hx103_2; replace hx103_3 := qc HB.out hx103_3; have HR103_3 := Aside0.mk hi103_3; have HC103_3 := Aside0.mk hl103_3; clear hi103_3 hl103_3; replace p103 := eq_true p103; replace q103 := eq_true q103) | (go_at_call 129; (with_reducible refine (expr_line.calls k ((rd_T34 l0_3 a1).f0) t104 _ A6.out).mono ?_); rintro e w' ⟨rfl, ⟨nd, rfl⟩⟩; (try first | exact qw | exact ⟨rfl, _, Eq.trans (World.drewN_drewN _ _ _) (congrArg (World.drewN _) (Nat.add_assoc _ _ _))⟩))))
    go_ret
    exact qr
   rw [if_neg c10] at H
   obtain ⟨c10b0, c10b1⟩ := qd c10
   obtain rfl := Option.some.inj H
   go_enter Tryd.func96, Tryd.ntmps96
   go_wp2_with (first | ((with_reducible refine gate_dst (N := 2) rfl ?_); refine box_event ?hg (N := 2) ?hd (cs := #[.int .i64 a0_0, .int .i64 a0_1, .string a0_2, .slice A0_3 l0_3.length c0_3]) (t := 34) ?hr ?_; (case hd => rfl); (case hg => rfl); (case hr => first | (go_simp; done) | (go_simp; rfl)); intro gb101 hg w19 hbox hb; have n0_ := qs hb; have n1_ := Aside0.mk (hbox); have n2_ := Aside0.mk ((by rw [hg]; exact (below_size qb) : w.heap.size ≤ gb101)); have n3_ := Aside0.mk ((by rw [hg]; exact (below_size qb) : w.heap.size ≤ gb101)); clear HB; have HB := n0_; have BK101 := n1_; have GW101 := n2_; have GE101 := n3_; clear n0_ n1_ n2_ n3_; clear hb hbox hg; obtain ⟨_, _, _, _, _, _, _, _⟩ := q4 BK101.out) | (go_at_call 129; (with_reducible refine (expr_line.calls k a0_0 t102 _ A3.out).mono ?_); rintro e w' ⟨rfl, ⟨nd, rfl⟩⟩; (try first | exact qw | exact ⟨rfl, _, Eq.trans (World.drewN_drewN _ _ _) (congrArg (World.drewN _) (Nat.add_assoc _ _ _))⟩); have p103 : 0 ≤ (a1 : Int) := qa; have q103 : a1 < (l0_3.length : Int) := qa; obtain ⟨ad103, A103_3, c103_3, e103, hx103_0, hx103_1, hx103_2, hx103_3, hl103_3, hi103_3⟩ := at_T34 HR0_3.out a1 p103 q103; cases e103; replace hx103_0 := qc HB.out hx103_0; replace hx103_1 := qc HB.out hx103_1; replace hx103_2 := qc HB.out hx103_2; replace hx103_3 := qc HB.out hx103_3; have HR103_3 := Aside0.mk hi103_3; have HC103_3 := Aside0.mk hl103_3; clear hi103_3 hl103_3; replace p103 := eq_true p103; replace q103 := eq_true q103) | (go_at_call 129; (with_reducible refine (expr_line.calls k ((rd_T34 l0_3 a1).f0) t104 _ A6.out).mono ?_); rintro e w' ⟨rfl, ⟨nd, rfl⟩⟩; (try first | exact qw | exact ⟨rfl, _, Eq.trans (World.drewN_drewN _ _ _) (congrArg (World.drewN _) (Nat.add_assoc _ _ _))⟩)))
   repeat (go_quiet (first | ((with_reducible refine gate_dst (N := 2) rfl ?_); refine box_event ?hg (N := 2) ?hd (cs := #[.int .i64 a0_0, .int .i64 a0_1, .string a0_2, .slice A0_3 l0_3.length c0_3]) (t := 34) ?hr ?_; (case hd => rfl); (case hg => rfl); (case hr => first | (go_simp; done) | (go_simp; rfl)); intro gb101 hg w19 hbox hb; have n0_ := qs hb; have n1_ := Aside0.mk (hbox); have n2_ := Aside0.mk ((by rw [hg]; exact (below_size qb) : w.heap.size ≤ gb101)); have n3_ := Aside0.mk ((by rw [hg]; exact (below_size qb) : w.heap.size ≤ gb101)); clear HB; have HB := n0_; have BK101 := n1_; have GW101 := n2_; have GE101 := n3_; clear n0_ n1_ n2_ n3_; clear hb hbox hg; obtain ⟨_, _, _, _, _, _, _, _⟩ := q4 BK101.out) | (go_at_call 129; (with_reducible refine (expr_line.calls k a0_0 t102 _ A3.out).mono ?_); rintro e w' ⟨rfl, ⟨nd, rfl⟩⟩; (try first | exact qw | exact ⟨rfl, _, Eq.trans (World.drewN_drewN _ _ _) (congrArg (World.drewN _) (Nat.add_assoc _ _ _))⟩); have p103 : 0 ≤ (a1 : Int) := qa; have q103 : a1 < (l0_3.length : Int) := qa; obtain ⟨ad103, A103_3, c103_3, e103, hx103_0, hx103_1, hx103_2, hx103_3, hl103_3, hi103_3⟩ := at_T34 HR0_3.out a1 p103 q103; cases e103; replace hx103_0 := qc HB.out hx103_0; replace hx103_1 := qc HB.out hx103_1; replace hx103_2 := qc HB.out hx103_2; replace hx103_3 := qc HB.out hx103_3; have HR103_3 := Aside0.mk hi103_3; have HC103_3 := Aside0.mk hl103_3; clear hi103_3 hl103_3; replace p103 := eq_true p103; replace q103 := eq_true q103) | (go_at_call 129; (with_reducible refine (expr_line.calls k ((rd_T34 l0_3 a1).f0) t104 _ A6.out).mono ?_); rintro e w' ⟨rfl, ⟨nd, rfl⟩⟩; (try first | exact qw | exact ⟨rfl, _, Eq.trans (World.drewN_drewN _ _ _) (congrArg (World.drewN _) (Nat.add_assoc _ _ _))⟩))); try go_wp2_with (first | ((with_reducible refine gate_dst (N := 2) rfl ?_); refine box_event ?hg (N := 2) ?hd (cs := #[.int .i64 a0_0, .int .i64 a0_1, .string a0_2, .slice A0_3 l0_3.length c0_3]) (t := 34) ?hr ?_; (case hd => rfl); (case hg => rfl); (case hr => first | (go_simp; done) | (go_simp; rfl)); intro gb101 hg w19 hbox hb; have n0_ := qs hb; have n1_ := Aside0.mk (hbox); have n2_ := Aside0.mk ((by rw [hg]; exact (below_size qb) : w.heap.size ≤ gb101)); have n3_ := Aside0.mk ((by rw [hg]; exact (below_size qb) : w.heap.size ≤ gb101)); clear HB; have HB := n0_; have BK101 := n1_; have GW101 := n2_; have GE101 := n3_; clear n0_ n1_ n2_ n3_; clear hb hbox hg; obtain ⟨_, _, _, _, _, _, _, _⟩ := q4 BK101.out) | (go_at_call 129; (with_reducible refine (expr_line.calls k a0_0 t102 _ A3.out).mono ?_); rintro e w' ⟨rfl, ⟨nd, rfl⟩⟩; (try first | exact qw | exact ⟨rfl, _, Eq.trans (World.drewN_drewN _ _ _) (congrArg (World.drewN _) (Nat.add_assoc _ _ _))⟩); have p103 : 0 ≤ (a1 : Int) := qa; have q103 : a1 < (l0_3.length : Int) := qa; obtain ⟨ad103, A103_3, c103_3, e103, hx103_0, hx103_1, hx103_2, hx103_3, hl103_3, hi103_3⟩ := at_T34 HR0_3.out a1 p103 q103; cases e103; replace hx103_0 := qc HB.out hx103_0; replace hx103_1 := qc HB.out hx103_1; replace hx103_2 := qc HB.out hx103_2; replace hx103_3 := qc HB.out hx103_3; have HR103_3 := Aside0.mk hi103_3; have HC103_3 := Aside0.mk hl103_3; clear hi103_3 hl103_3; replace p103 := eq_true p103; replace q103 := eq_true q103) | (go_at_call 129; (with_reducible refine (expr_line.calls k ((rd_T34 l0_3 a1).f0) t104 _ A6.out).mono ?_); rintro e w' ⟨rfl, ⟨nd, rfl⟩⟩; (try first | exact qw | exact ⟨rfl, _, Eq.trans (World.drewN_drewN _ _ _) (congrArg (World.drewN _) (Nat.add_assoc _ _ _))⟩))))
   go_ret
   exact qr
  rw [if_neg c5] at H
  exact absurd H (by simp)
 rw [if_neg c4] at H
 exact absurd H (by simp)
end Go.Proofs.YtiaccdaeomaogaaDoor.F
