/- Texts of one claim, slimmed and merged by slim.py. -/
import Derived.Test.YtiaccdaeomaogaaDoorT4
namespace Go.Proofs.YtiaccdaeomaogaaDoor.F
open Go.RowKit Go.Proofs.YtiaccdaeomaogaaDoorW.PrintWords Go.Proofs.YtiaccdaeomaogaaDoorW.PrintLast Go.Proofs.YtiaccdaeomaogaaDoorW.PrintMore
attribute [local go_sem] max2_int min2_int max_two min_two max_three min_three max_four min_four   -- for this text's walks alone
set_option linter.unusedVariables false
set_option linter.unusedSimpArgs false
mutual
def malthouseref02_Weight.j0 : Nat → Int → Bool → Int → Int → ByteArray → List (S34) → Option (Int)
  | 0, _, _, _, _, _, _ => none
  | k + 1, x1, x16, x102000, x102001, x102002, x102003 => if x16 = true then (some 0) else (malthouseref02_Weight.l0 k (wrap64 (x1 - 1)) 0 x102000 x102001 x102002 x102003)
def malthouseref02_Weight.l0 : Nat → Int → Int → Int → Int → ByteArray → List (S34) → Option (Int)
  | 0, _, _, _, _, _, _ => none
  | k + 1, x1, x5, x102000, x102001, x102002, x102003 => if x5 < (x102003.length : Int) then (if x1 > 0 then (if 0 ≤ x5 then ((malthouseref02_Weight.f k ((rd_T34 x102003 x5).f0) ((rd_T34 x102003 x5).f1) ((rd_T34 x102003 x5).f2) ((rd_T34 x102003 x5).f3) x1).bind fun t103 => (malthouseref02_Weight.l0 k t103 (wrap64 (x5 + 1)) x102000 x102001 x102002 x102003)) else (none)) else (if x1 < 0 then (some 0) else (some x1))) else (if x1 < 0 then (some 0) else (some x1))
def malthouseref02_Weight.f : Nat → Int → Int → ByteArray → List (S34) → Int → Option (Int)
  | 0, _, _, _, _, _ => none
  | k + 1, a0_0, a0_1, a0_2, l0_3, a1 => if (l0_3.length : Int) > a1 then (malthouseref02_Weight.j0 k a1 true a0_0 a0_1 a0_2 l0_3) else (malthouseref02_Weight.j0 k a1 (decide ((a0_2.size : Int) > 200)) a0_0 a0_1 a0_2 l0_3)
end
set_option maxHeartbeats 8000000 in
set_option maxRecDepth 100000 in
theorem malthouseref02_Weight.calls (k : Nat) : ∀ (a0_0 : Int) (a0_1 : Int) (a0_2 : ByteArray) (A0_3 : Option Addr) (c0_3 : Nat) (l0_3 : List (S34)) (a1 : Int) (r : Int) (w : World) (hr0_3 : Kd.C k34 w A0_3 l0_3.length l0_3) (hc0_3 : l0_3.length ≤ c0_3) (h : malthouseref02_Weight.f k a0_0 a0_1 a0_2 l0_3 a1 = some r),
    Calls Tryd.prog 28 #[.agg #[.int .i64 a0_0, .int .i64 a0_1, .string a0_2, .slice A0_3 l0_3.length c0_3], .int .i64 a1] w fun e w' => e = .returned (.int .i64 r) ∧ Below w.heap.size w w' := by
  induction k using Nat.strongRecOn with
  | _ k ih =>
  intro a0_0 a0_1 a0_2 A0_3 c0_3 l0_3 a1 r w hr0_3 hc0_3 h
  cases k with
  | zero => exact absurd h (by simp [malthouseref02_Weight.f])
  | succ k =>
  simp only [malthouseref02_Weight.f] at h
  have hu34 := Tryd.underlying34
  have HR0_3 := Aside0.mk hr0_3
  have HC0_3 := Aside0.mk hc0_3
  clear hr0_3 hc0_3
  have HB := Aside0.mk (Below.refl w.heap.size w)
  have H : (if (l0_3.length : Int) > a1 then (malthouseref02_Weight.j0 k a1 true a0_0 a0_1 a0_2 l0_3) else (malthouseref02_Weight.j0 k a1 (decide ((a0_2.size : Int) > 200)) a0_0 a0_1 a0_2 l0_3)) = some r := h
  clear h
  have HC3 := Aside0.mk H
  clear H
  go_enter Tryd.func28, Tryd.ntmps28
  go_upto_region 1 with (first | ((with_reducible refine gate_dst (N := 2) rfl ?_); (try (refine gate_guard (by rfl) ?_; dsimp only)); refine box_event ?hg (N := 2) ?hd (cs := #[.int .i64 a0_0, .int .i64 a0_1, .string a0_2, .slice A0_3 l0_3.length c0_3]) (t := 34) ?hr ?_; (case hd => rfl); (case hg => rfl); (case hr => first | (go_simp; done) | (go_simp; rfl)); intro gb101 hg w4 hbox hb; have n0_ := qs hb; have n1_ := Aside0.mk (hbox); have n2_ := Aside0.mk ((by rw [hg]; exact (below_size qb) : w.heap.size ≤ gb101)); have n3_ := Aside0.mk ((by rw [hg]; exact (below_size qb) : w.heap.size ≤ gb101)); clear HB; have HB := n0_; have BK101 := n1_; have GW101 := n2_; have GE101 := n3_; clear n0_ n1_ n2_ n3_; clear hb hbox hg))
  (try simp only [Act.put, List.setIfInBounds_toArray, List.set_cons_zero, List.set_cons_succ])
  go_cut [16] (fun v16 wc => ∃ (kq : Nat) (x16_2 : Bool), v16 = .bool x16_2 ∧ Aside0 (malthouseref02_Weight.j0 kq a1 x16_2 a0_0 a0_1 a0_2 l0_3 = some r) ∧ Aside0 (kq ≤ k) ∧ Aside0 (wc.heap[gb101]? = some (.cells #[.int .i64 a0_0, .int .i64 a0_1, .string a0_2, (.slice A0_3 l0_3.length c0_3)] 34 (0, 0))) ∧ Aside0 (Below w.heap.size w wc))
  case first =>
    have H := HC3.out
    clear HC3
    by_cases c5 : (l0_3.length : Int) > a1
    · rw [if_pos c5] at H
      have c5b0 : decide (a1 < (l0_3.length : Int)) = true := decide_eq_true c5
      clear c5
      (first | rw [c5b0] | (simp only [i64_w, i32_w]; rw [c5b0]) | skip)
      have H' := Aside0.mk H
      clear H
      obtain ⟨_, _, _, _, _, _, _, _⟩ := q4 BK101.out
      go_wp2
      go_meet
      case rel => exact ⟨_, (true), qv, H', ql, qk101, qB⟩
    rw [if_neg c5] at H
    have c5b0 : decide (a1 < (l0_3.length : Int)) = false := decide_eq_false c5
    clear c5
    (first | rw [c5b0] | (simp only [i64_w, i32_w]; rw [c5b0]) | skip)
    have H' := Aside0.mk H
    clear H
    obtain ⟨_, _, _, _, _, _, _, _⟩ := q4 BK101.out
    go_wp2
    go_meet
    case rel => exact ⟨_, (decide ((a0_2.size : Int) > 200)), qv, H', ql, qk101, qB⟩
  clear HC3
  obtain ⟨kq, x16_2, rfl, HA, HJ2, BK101, HB⟩ := hcut
  cases kq with
  | zero => exact absurd HA.out (by simp [malthouseref02_Weight.j0])
  | succ kj2 =>
    have H := HA.out
    clear HA
    simp only [malthouseref02_Weight.j0] at H
    by_cases c8 : x16_2 = true
    · subst c8
      rw [if_pos rfl] at H
      obtain rfl := Option.some.inj H
      go_wp2
      go_ret
      exact qr
    replace c8 := Bool.eq_false_iff.mpr c8
    subst c8
    rw [if_neg qf] at H
    have H' := Aside0.mk H
    clear H
    go_wp2
    go_loopg [1, 5] kj2 (fun kq v1 v5 w' => ∃ (x1_2 : Int) (x5_2 : Int), v1 = .int .i64 x1_2 ∧ v5 = .int .i64 x5_2 ∧ Aside0 (malthouseref02_Weight.l0 kq x1_2 x5_2 a0_0 a0_1 a0_2 l0_3 = some r) ∧ Aside0 (kq ≤ kj2) ∧ Aside0 (w'.heap[gb101]? = some (.cells #[.int .i64 a0_0, .int .i64 a0_1, .string a0_2, (.slice A0_3 l0_3.length c0_3)] 34 (0, 0))) ∧ Aside0 (Below w.heap.size w w'))
    case atStart => exact ⟨(wrap64 (a1 - 1)), (0), qv, qv, H', ⟨Nat.le_refl _⟩, qk101, qB⟩
    case round =>
      clear H'
      obtain ⟨x1_2, x5_2, rfl, rfl, HA, HK2, BK101, HB⟩ := hrel
      cases gk with
      | zero => exact absurd HA.out (by simp [malthouseref02_Weight.l0])
      | succ k2 =>
        have H := HA.out
        clear HA
        simp only [malthouseref02_Weight.l0] at H
        by_cases c9 : x5_2 < (l0_3.length : Int)
        · rw [if_pos c9] at H
          have c9b0 : decide (x5_2 < (l0_3.length : Int)) = true := decide_eq_true c9
          clear c9
          by_cases c10 : x1_2 > 0
          · rw [if_pos c10] at H
            have c10b0 : decide (0 < x1_2) = true := decide_eq_true c10
            clear c10
            by_cases c11 : 0 ≤ x5_2
            · rw [if_pos c11] at H
              have c11b0 : decide (0 ≤ x5_2) = true := decide_eq_true c11
              clear c11
              replace H := qi H
              obtain ⟨t103, A12, H⟩ := H
              have H' := Aside0.mk H
              clear H
              obtain ⟨_, _, _, _, _, _, _, _⟩ := q4 BK101.out
              have p102 : 0 ≤ (x5_2 : Int) := qa
              have q102 : x5_2 < (l0_3.length : Int) := qa
              obtain ⟨ad102, A102_3, c102_3, e102, hx102_0, hx102_1, hx102_2, hx102_3, hl102_3, hi102_3⟩ := at_T34 HR0_3.out x5_2 p102 q102
              cases e102
              replace hx102_0 := qc HB.out hx102_0
              replace hx102_1 := qc HB.out hx102_1
              replace hx102_2 := qc HB.out hx102_2
              replace hx102_3 := qc HB.out hx102_3
              have HR102_3 := Aside0.mk hi102_3
              have HC102_3 := Aside0.mk hl102_3
              clear hi102_3 hl102_3
              replace p102 := eq_true p102
              replace q102 := eq_true q102
              go_wp2_with (first | ((with_reducible refine gate_callee (f := 28) rfl ?_); refine goesL_ (some 36) rfl rfl Tryd.func28 (by kernel_rfl) rfl #[.agg #[.int .i64 ((rd_T34 l0_3 x5_2).f0), .int .i64 ((rd_T34 l0_3 x5_2).f1), .string ((rd_T34 l0_3 x5_2).f2), .slice A102_3 ((rd_T34 l0_3 x5_2).f3).length c102_3], .int .i64 x1_2] rfl qm ?_; (with_reducible refine (ih k2 (by have := HJ2.out; have := HK2.out; omega) ((rd_T34 l0_3 x5_2).f0) ((rd_T34 l0_3 x5_2).f1) ((rd_T34 l0_3 x5_2).f2) _ _ ((rd_T34 l0_3 x5_2).f3) x1_2 t103 _ ?side1 ?side2 A12.out).mono ?_); (case side1 => exact qC HR102_3.out); (case side2 => exact HC102_3.out); rintro e w14 ⟨rfl, hb⟩; refine ⟨_, rfl, ?_⟩; have n0_ := qn101 (g := gb101) hb; have n1_ := qs hb; clear BK101; clear HB; have BK101 := n0_; have HB := n1_; clear n0_ n1_; (try clear hb)))
              go_roundg k2
              case measure => have := HJ2.out; have := HK2.out; omega
              case rel => exact ⟨(t103), (wrap64 (x5_2 + 1)), qv, qv, H', ⟨by have := HJ2.out; have := HK2.out; omega⟩, qk101, qB⟩
            rw [if_neg c11] at H
            exact absurd H (by simp)
          rw [if_neg c10] at H
          have c10b0 : decide (0 < x1_2) = false := decide_eq_false c10
          clear c10
          by_cases c15 : x1_2 < 0
          · rw [if_pos c15] at H
            have c15b0 : decide (x1_2 < 0) = true := decide_eq_true c15
            clear c15
            obtain rfl := Option.some.inj H
            obtain ⟨_, _, _, _, _, _, _, _⟩ := q4 BK101.out
            go_wp2
            go_ret
            exact qr
          rw [if_neg c15] at H
          have c15b0 : decide (x1_2 < 0) = false := decide_eq_false c15
          clear c15
          obtain rfl := Option.some.inj H
          obtain ⟨_, _, _, _, _, _, _, _⟩ := q4 BK101.out
          go_wp2
          go_ret
          exact qr
        rw [if_neg c9] at H
        have c9b0 : decide (x5_2 < (l0_3.length : Int)) = false := decide_eq_false c9
        clear c9
        by_cases c18 : x1_2 < 0
        · rw [if_pos c18] at H
          have c18b0 : decide (x1_2 < 0) = true := decide_eq_true c18
          clear c18
          obtain rfl := Option.some.inj H
          obtain ⟨_, _, _, _, _, _, _, _⟩ := q4 BK101.out
          go_wp2
          go_ret
          exact qr
        rw [if_neg c18] at H
        have c18b0 : decide (x1_2 < 0) = false := decide_eq_false c18
        clear c18
        obtain rfl := Option.some.inj H
        obtain ⟨_, _, _, _, _, _, _, _⟩ := q4 BK101.out
        go_wp2
        go_ret
        exact qr
mutual
def expr_line.j0 : Nat → Int → Bool → Option (Int)
  | 0, _, _ => none
  | k + 1, x0, x9 => if x9 = true then (some 3) else (if x0 = 4 then (expr_line.j1 k x0 (x0 == 4)) else (expr_line.j1 k x0 (x0 == 5)))
def expr_line.j1 : Nat → Int → Bool → Option (Int)
  | 0, _, _ => none
  | k + 1, x0, x16 => if x16 = true then (some 4) else (if x0 ≥ 6 then (if x0 ≤ 8 then (some 5) else (some 6)) else (some 6))
end
def expr_line.f (k : Nat) (a0 : Int) : Option (Int) := if a0 = 16 then (some 1) else (if a0 = 15 then (some 2) else (if a0 ≥ 9 then (expr_line.j0 k a0 (decide (a0 ≤ 14))) else (expr_line.j0 k a0 false)))
theorem expr_line.mono_l : ∀ k, (∀ y0 y1, LeO (expr_line.j0 k y0 y1) (expr_line.j0 (k + 1) y0 y1)) ∧ (∀ y0 y1, LeO (expr_line.j1 k y0 y1) (expr_line.j1 (k + 1) y0 y1))
  | 0 => ⟨fun _ _ r h => by simp [expr_line.j0] at h, fun _ _ r h => by simp [expr_line.j1] at h⟩
  | k + 1 => by
    obtain ⟨ih0, ih1⟩ := expr_line.mono_l k
    refine ⟨?_, ?_⟩
    · intro y0 y1
      unfold expr_line.j0
      repeat' first
      | (with_reducible exact ih0 _ _)
      | (with_reducible exact ih1 _ _)
      | (with_reducible exact LeO.refl _)
      | (with_reducible exact LeO.none _)
      | (with_reducible refine LeO.ite ?_ ?_)
      | (with_reducible refine LeO.bind ?_ (fun _ => ?_))
      | exact ih0 _ _
      | exact ih1 _ _
      | exact LeO.none _
      | refine LeO.ite ?_ ?_
      | refine LeO.bind ?_ (fun _ => ?_)
    intro y0 y1
    unfold expr_line.j1
    repeat' first
    | (with_reducible exact ih0 _ _)
    | (with_reducible exact ih1 _ _)
    | (with_reducible exact LeO.refl _)
    | (with_reducible exact LeO.none _)
    | (with_reducible refine LeO.ite ?_ ?_)
    | (with_reducible refine LeO.bind ?_ (fun _ => ?_))
    | exact ih0 _ _
    | exact ih1 _ _
    | exact LeO.none _
    | refine LeO.ite ?_ ?_
    | refine LeO.bind ?_ (fun _ => ?_)
theorem expr_line.mono : ∀ a0 k, LeO (expr_line.f k a0) (expr_line.f (k + 1) a0) := by
  intro a0 k
  obtain ⟨ih0, ih1⟩ := expr_line.mono_l k
  unfold expr_line.f
  repeat' first
      | (with_reducible exact ih0 _ _)
      | (with_reducible exact ih1 _ _)
      | (with_reducible exact LeO.refl _)
      | (with_reducible exact LeO.none _)
      | (with_reducible refine LeO.ite ?_ ?_)
      | (with_reducible refine LeO.bind ?_ (fun _ => ?_))
      | exact ih0 _ _
      | exact ih1 _ _
      | exact LeO.none _
      | refine LeO.ite ?_ ?_
      | refine LeO.bind ?_ (fun _ => ?_)
set_option maxHeartbeats 8000000 in
set_option maxRecDepth 100000 in
theorem expr_line.calls (k : Nat) (a0 : Int) (r : Int) (w : World) (h : expr_line.f k a0 = some r) :
  Calls Tryd.prog 129 #[.int .i64 a0] w fun e w' => e = .returned (.int .i64 r) ∧ Drawn0 w w' := by
 have H : (if a0 = 16 then (some 1) else (if a0 = 15 then (some 2) else (if a0 ≥ 9 then (expr_line.j0 k a0 (decide (a0 ≤ 14))) else (expr_line.j0 k a0 false)))) = some r := h
 clear h
 by_cases c2 : a0 = 16
 ·rw [if_pos c2] at H
  obtain ⟨c2b0, c2b1⟩ := qe c2
  clear c2
  obtain rfl := Option.some.inj H
  go_enter Tryd.func129, Tryd.ntmps129
  go_wp2
  go_ret
  exact ⟨by first | rfl | (simp; done) | (simp [*]; done), by repeat (first | exact Drawn0.refl _ | apply Drawn0.step)⟩
 rw [if_neg c2] at H
 obtain ⟨c2b0, c2b1⟩ := qd c2
 by_cases c3 : a0 = 15
 ·rw [if_pos c3] at H
  obtain ⟨c3b0, c3b1⟩ := qe c3
  clear c3
  obtain rfl := Option.some.inj H
  go_enter Tryd.func129, Tryd.ntmps129
  go_wp2
  go_ret
  exact ⟨by first | rfl | (simp; done) | (simp [*]; done), by repeat (first | exact Drawn0.refl _ | apply Drawn0.step)⟩
 rw [if_neg c3] at H
 obtain ⟨c3b0, c3b1⟩ := qd c3
 have HC4 := Aside0.mk H
 clear H
 go_enter Tryd.func129, Tryd.ntmps129
 go_upto_region 5 with (fail)
 go_cut [9] (fun v9 wc => ∃ (kq : Nat) (x9_3 : Bool), v9 = .bool x9_3 ∧ Aside0 (expr_line.j0 kq a0 x9_3 = some r) ∧ Aside0 (kq ≤ k) ∧ Drawn0 w wc)
 case first =>
  have H := HC4.out
  clear HC4
  by_cases c5 : a0 ≥ 9
  ·rw [if_pos c5] at H
   have c5b0 : decide (9 ≤ a0) = true := decide_eq_true c5
   clear c5
   (first | rw [c5b0] | (simp only [i64_w, i32_w]; rw [c5b0]) | skip)
   have H' := Aside0.mk H
   clear H
   go_wp2
   go_meet
   case rel => exact ⟨_, (decide (a0 ≤ 14)), qv, H', ql, by repeat (first | exact Drawn0.refl _ | apply Drawn0.step)⟩
  rw [if_neg c5] at H
  have c5b0 : decide (9 ≤ a0) = false := decide_eq_false c5
  clear c5
  (first | rw [c5b0] | (simp only [i64_w, i32_w]; rw [c5b0]) | skip)
  have H' := Aside0.mk H
  clear H
  go_wp2
  go_meet
  case rel => exact ⟨_, (false), qv, H', ql, by repeat (first | exact Drawn0.refl _ | apply Drawn0.step)⟩
 clear HC4
 obtain ⟨kq, x9_3, rfl, HA, HJ3, ⟨mc3, rfl⟩⟩ := hcut
 cases kq with
 | zero => exact absurd HA.out (by simp [expr_line.j0])
 | succ kj3 =>
  have H := HA.out
  clear HA
  simp only [expr_line.j0] at H
  by_cases c6 : x9_3 = true
  ·subst c6
   rw [if_pos rfl] at H
   obtain rfl := Option.some.inj H
   go_wp2
   go_ret
   exact ⟨by first | rfl | (simp; done) | (simp [*]; done), by repeat (first | exact Drawn0.refl _ | apply Drawn0.step)⟩
  replace c6 := Bool.eq_false_iff.mpr c6
  subst c6
  rw [if_neg qf] at H
  have HC7 := Aside0.mk H
  clear H
  go_upto_if 16 with (fail)
  go_cut [16] (fun v16 wc => ∃ (kq : Nat) (x16_6 : Bool), v16 = .bool x16_6 ∧ Aside0 (expr_line.j1 kq a0 x16_6 = some r) ∧ Aside0 (kq ≤ kj3) ∧ Drawn0 w wc)
  case first =>
   have H := HC7.out
   clear HC7
   by_cases c8 : a0 = 4
   ·rw [if_pos c8] at H
    obtain ⟨c8b0, c8b1⟩ := qe c8
    clear c8
    (first | rw [c8b0] | (simp only [i64_w, i32_w]; rw [c8b0]) | skip)
    have H' := Aside0.mk H
    clear H
    go_wp2
    go_meet
    case rel => exact ⟨_, ((a0 == 4)), qv, H', ⟨by have := HJ3.out; first | omega | exact Nat.le_refl _⟩, by repeat (first | exact Drawn0.refl _ | apply Drawn0.step)⟩
   rw [if_neg c8] at H
   obtain ⟨c8b0, c8b1⟩ := qd c8
   (first | rw [c8b0] | (simp only [i64_w, i32_w]; rw [c8b0]) | skip)
   have H' := Aside0.mk H
   clear H
   go_wp2
   go_meet
   case rel => exact ⟨_, ((a0 == 5)), qv, H', ⟨by have := HJ3.out; first | omega | exact Nat.le_refl _⟩, by repeat (first | exact Drawn0.refl _ | apply Drawn0.step)⟩
  clear HC7
  obtain ⟨kq, x16_6, rfl, HA, HJ6, ⟨mc6, rfl⟩⟩ := hcut
  cases kq with
  | zero => exact absurd HA.out (by simp [expr_line.j1])
  | succ kj6 =>
   have H := HA.out
   clear HA
   simp only [expr_line.j1] at H
   by_cases c9 : x16_6 = true
   ·subst c9
    rw [if_pos rfl] at H
    obtain rfl := Option.some.inj H
    go_wp2
    go_ret
    exact ⟨by first | rfl | (simp; done) | (simp [*]; done), by repeat (first | exact Drawn0.refl _ | apply Drawn0.step)⟩
   replace c9 := Bool.eq_false_iff.mpr c9
   subst c9
   rw [if_neg qf] at H
   by_cases c10 : a0 ≥ 6
   ·rw [if_pos c10] at H
    have c10b0 : decide (6 ≤ a0) = true := decide_eq_true c10
    clear c10
    by_cases c11 : a0 ≤ 8
    ·rw [if_pos c11] at H
     have c11b0 : decide (a0 ≤ 8) = true := decide_eq_true c11
     clear c11
     obtain rfl := Option.some.inj H
     go_wp2
     go_ret
     exact ⟨by first | rfl | (simp; done) | (simp [*]; done), by repeat (first | exact Drawn0.refl _ | apply Drawn0.step)⟩
    rw [if_neg c11] at H
    have c11b0 : decide (a0 ≤ 8) = false := decide_eq_false c11
    clear c11
    obtain rfl := Option.some.inj H
    go_wp2
    go_ret
    exact ⟨by first | rfl | (simp; done) | (simp [*]; done), by repeat (first | exact Drawn0.refl _ | apply Drawn0.step)⟩
   rw [if_neg c10] at H
   have c10b0 : decide (6 ≤ a0) = false := decide_eq_false c10
   clear c10
   obtain rfl := Option.some.inj H
   go_wp2
   go_ret
   exact ⟨by first | rfl | (simp; done) | (simp [*]; done), by repeat (first | exact Drawn0.refl _ | apply Drawn0.step)⟩
end Go.Proofs.YtiaccdaeomaogaaDoor.F
