/- Texts of one claim, slimmed and merged by slim.py. -/
import Derived.Test.YtiaccdaeomaogaaDoorA4
import Derived.Test.YtiaccdaeomaogaaDoorA6
import Derived.Test.YtiaccdaeomaogaaDoorA13
import Derived.Test.YtiaccdaeomaogaaDoorA16
import Derived.Test.YtiaccdaeomaogaaDoorA21
namespace Go.Proofs.YtiaccdaeomaogaaDoor.F
open Go.RowKit Go.Proofs.YtiaccdaeomaogaaDoorW.PrintWords Go.Proofs.YtiaccdaeomaogaaDoorW.PrintLast Go.Proofs.YtiaccdaeomaogaaDoorW.PrintMore
attribute [local go_sem] max2_int min2_int max_two min_two max_three min_three max_four min_four   -- for this text's walks alone
set_option linter.unusedVariables false
set_option linter.unusedSimpArgs false
attribute [local go_sem high] eqA57
def phase_Right.j0 : Nat → Bool → List (S67) → List (S67) → List (S67) → List (S67) → List (S67) → Int → Int → Int → Int → Int → Bool → Int → List (S69) → Option (Bool)
  | 0, _, _, _, _, _, _, _, _, _, _, _, _, _, _ => none
  | k + 1, x28, x102000, x102001, x102002, x102003, x102004, x103000, x103001, x103002, x103003, x103004, x103005, x103006, x103007 => if x28 = true then (some false) else ((phase_find.f x102000 x102001 x102002 x102003 x102004 x103000).bind fun bt105 => (if bt105.2 = true then (if x103000 = 1 then (some (x103003 == 0 && (x103004 == 0))) else ((prog_Right.f bt105.1 x103003 x103004).bind fun t109 => (some t109))) else (some (x103003 == 0 && (x103004 == 0)))))
def phase_Right.f (k : Nat) (l0_0 : List (S67)) (l0_1 : List (S67)) (l0_2 : List (S67)) (l0_3 : List (S67)) (l0_4 : List (S67)) (a1_0 : Int) (a1_1 : Int) (a1_2 : Int) (a1_3 : Int) (a1_4 : Int) (a1_5 : Bool) (a1_6 : Int) (l1_7 : List (S69)) : Option (Bool) := if a1_0 < 0 then (phase_Right.j0 k true l0_0 l0_1 l0_2 l0_3 l0_4 a1_0 a1_1 a1_2 a1_3 a1_4 a1_5 a1_6 l1_7) else (if a1_0 ≥ 12 then (phase_Right.j0 k true l0_0 l0_1 l0_2 l0_3 l0_4 a1_0 a1_1 a1_2 a1_3 a1_4 a1_5 a1_6 l1_7) else ((prog_Right.f l0_0 a1_1 a1_2).bind fun t103 => (if t103 = true then ((phase_named.f l1_7).bind fun t104 => (phase_Right.j0 k (!t104) l0_0 l0_1 l0_2 l0_3 l0_4 a1_0 a1_1 a1_2 a1_3 a1_4 a1_5 a1_6 l1_7)) else (phase_Right.j0 k true l0_0 l0_1 l0_2 l0_3 l0_4 a1_0 a1_1 a1_2 a1_3 a1_4 a1_5 a1_6 l1_7))))
theorem phase_Right.mono_l : ∀ k, (∀ y0 y1 y2 y3 y4 y5 y6 y7 y8 y9 y10 y11 y12 y13, LeO (phase_Right.j0 k y0 y1 y2 y3 y4 y5 y6 y7 y8 y9 y10 y11 y12 y13) (phase_Right.j0 (k + 1) y0 y1 y2 y3 y4 y5 y6 y7 y8 y9 y10 y11 y12 y13))
  | 0 => fun _ _ _ _ _ _ _ _ _ _ _ _ _ _ r h => by simp [phase_Right.j0] at h
  | k + 1 => by
    have ih0 := phase_Right.mono_l k
    intro y0 y1 y2 y3 y4 y5 y6 y7 y8 y9 y10 y11 y12 y13
    unfold phase_Right.j0
    repeat' first
    | (with_reducible exact ih0 _ _ _ _ _ _ _ _ _ _ _ _ _ _)
    | (with_reducible exact LeO.refl _)
    | (with_reducible exact LeO.none _)
    | (with_reducible refine LeO.ite ?_ ?_)
    | (with_reducible refine LeO.bind ?_ (fun _ => ?_))
    | exact ih0 _ _ _ _ _ _ _ _ _ _ _ _ _ _
    | exact LeO.none _
    | refine LeO.ite ?_ ?_
    | refine LeO.bind ?_ (fun _ => ?_)
theorem phase_Right.mono : ∀ a0 a1 a2 a3 a4 a5 a6 a7 a8 a9 a10 a11 a12 k, LeO (phase_Right.f k a0 a1 a2 a3 a4 a5 a6 a7 a8 a9 a10 a11 a12) (phase_Right.f (k + 1) a0 a1 a2 a3 a4 a5 a6 a7 a8 a9 a10 a11 a12) := by
  intro a0 a1 a2 a3 a4 a5 a6 a7 a8 a9 a10 a11 a12 k
  have ih0 := phase_Right.mono_l k
  unfold phase_Right.f
  repeat' first
      | (with_reducible exact ih0 _ _ _ _ _ _ _ _ _ _ _ _ _ _)
      | (with_reducible exact LeO.refl _)
      | (with_reducible exact LeO.none _)
      | (with_reducible refine LeO.ite ?_ ?_)
      | (with_reducible refine LeO.bind ?_ (fun _ => ?_))
      | exact ih0 _ _ _ _ _ _ _ _ _ _ _ _ _ _
      | exact LeO.none _
      | refine LeO.ite ?_ ?_
      | refine LeO.bind ?_ (fun _ => ?_)
set_option maxHeartbeats 8000000 in
set_option maxRecDepth 100000 in
theorem phase_Right.calls (k : Nat) (A0_0 : Option Addr) (c0_0 : Nat) (l0_0 : List (S67)) (A0_1 : Option Addr) (c0_1 : Nat) (l0_1 : List (S67)) (A0_2 : Option Addr) (c0_2 : Nat) (l0_2 : List (S67)) (A0_3 : Option Addr) (c0_3 : Nat) (l0_3 : List (S67)) (A0_4 : Option Addr) (c0_4 : Nat) (l0_4 : List (S67)) (a1_0 : Int) (a1_1 : Int) (a1_2 : Int) (a1_3 : Int) (a1_4 : Int) (a1_5 : Bool) (a1_6 : Int) (A1_7 : Option Addr) (c1_7 : Nat) (l1_7 : List (S69)) (r : Bool) (w : World) (hr0_0 : Kd.C k67 w A0_0 l0_0.length l0_0) (hc0_0 : l0_0.length ≤ c0_0) (hr0_1 : Kd.C k67 w A0_1 l0_1.length l0_1) (hc0_1 : l0_1.length ≤ c0_1) (hr0_2 : Kd.C k67 w A0_2 l0_2.length l0_2) (hc0_2 : l0_2.length ≤ c0_2) (hr0_3 : Kd.C k67 w A0_3 l0_3.length l0_3) (hc0_3 : l0_3.length ≤ c0_3) (hr0_4 : Kd.C k67 w A0_4 l0_4.length l0_4) (hc0_4 : l0_4.length ≤ c0_4) (hr1_7 : Kd.C k69 w A1_7 l1_7.length l1_7) (hc1_7 : l1_7.length ≤ c1_7) (h : phase_Right.f k l0_0 l0_1 l0_2 l0_3 l0_4 a1_0 a1_1 a1_2 a1_3 a1_4 a1_5 a1_6 l1_7 = some r) (hT : UT w) :
    Calls Tryd.prog 51 #[.agg #[.slice A0_0 l0_0.length c0_0, .slice A0_1 l0_1.length c0_1, .slice A0_2 l0_2.length c0_2, .slice A0_3 l0_3.length c0_3, .slice A0_4 l0_4.length c0_4], .agg #[.int .i64 a1_0, .int .i64 a1_1, .int .i64 a1_2, .int .i64 a1_3, .int .i64 a1_4, .bool a1_5, .int .i64 a1_6, .slice A1_7 l1_7.length c1_7]] w fun e w' => e = .returned (.bool r) ∧ Below w.heap.size w w' := by
  have HT0 := Aside0.mk hT
  clear hT
  have hu80 := Tryd.underlying80
  have hu82 := Tryd.underlying82
  have hu57 := Tryd.underlying57
  have HR0_0 := Aside0.mk hr0_0
  have HC0_0 := Aside0.mk hc0_0
  clear hr0_0 hc0_0
  have HR0_1 := Aside0.mk hr0_1
  have HC0_1 := Aside0.mk hc0_1
  clear hr0_1 hc0_1
  have HR0_2 := Aside0.mk hr0_2
  have HC0_2 := Aside0.mk hc0_2
  clear hr0_2 hc0_2
  have HR0_3 := Aside0.mk hr0_3
  have HC0_3 := Aside0.mk hc0_3
  clear hr0_3 hc0_3
  have HR0_4 := Aside0.mk hr0_4
  have HC0_4 := Aside0.mk hc0_4
  clear hr0_4 hc0_4
  have HR1_7 := Aside0.mk hr1_7
  have HC1_7 := Aside0.mk hc1_7
  clear hr1_7 hc1_7
  have HB := Aside0.mk (Below.refl w.heap.size w)
  have H : (if a1_0 < 0 then (phase_Right.j0 k true l0_0 l0_1 l0_2 l0_3 l0_4 a1_0 a1_1 a1_2 a1_3 a1_4 a1_5 a1_6 l1_7) else (if a1_0 ≥ 12 then (phase_Right.j0 k true l0_0 l0_1 l0_2 l0_3 l0_4 a1_0 a1_1 a1_2 a1_3 a1_4 a1_5 a1_6 l1_7) else ((prog_Right.f l0_0 a1_1 a1_2).bind fun t103 => (if t103 = true then ((phase_named.f l1_7).bind fun t104 => (phase_Right.j0 k (!t104) l0_0 l0_1 l0_2 l0_3 l0_4 a1_0 a1_1 a1_2 a1_3 a1_4 a1_5 a1_6 l1_7)) else (phase_Right.j0 k true l0_0 l0_1 l0_2 l0_3 l0_4 a1_0 a1_1 a1_2 a1_3 a1_4 a1_5 a1_6 l1_7))))) = some r := h
  clear h
  have HC3 := Aside0.mk H
  clear H
  go_enter Tryd.func51, Tryd.ntmps51
  go_upto_region 1 with (first | ((with_reducible refine gate_dst (N := 2) rfl ?_); refine box_event ?hg (N := 2) ?hd (cs := #[.slice A0_0 l0_0.length c0_0, .slice A0_1 l0_1.length c0_1, .slice A0_2 l0_2.length c0_2, .slice A0_3 l0_3.length c0_3, .slice A0_4 l0_4.length c0_4]) (t := 80) ?hr ?_; (case hd => rfl); (case hg => rfl); (case hr => first | (go_simp; done) | (go_simp; rfl)); intro gb101 hg w4 hbox hb; have n0_ := qs hb; have n1_ := Aside0.mk (hbox); have n2_ := Aside0.mk ((by rw [hg]; exact (below_size qb) : w.heap.size ≤ gb101)); have n3_ := Aside0.mk ((by rw [hg]; exact (below_size qb) : w.heap.size ≤ gb101)); clear HB; have HB := n0_; have BK101 := n1_; have GW101 := n2_; have GE101 := n3_; clear n0_ n1_ n2_ n3_; clear hb hbox hg) | ((with_reducible refine gate_dst (N := 3) rfl ?_); refine box_event ?hg (N := 3) ?hd (cs := #[.int .i64 a1_0, .int .i64 a1_1, .int .i64 a1_2, .int .i64 a1_3, .int .i64 a1_4, .bool a1_5, .int .i64 a1_6, .slice A1_7 l1_7.length c1_7]) (t := 82) ?hr ?_; (case hd => rfl); (case hg => rfl); (case hr => first | (go_simp; done) | (go_simp; rfl)); intro gb102 hg w5 hbox hb; have n0_ := qn101 (g := gb101) hb; have n1_ := qs hb; have n2_ := Aside0.mk (hbox); have n3_ := Aside0.mk ((by rw [hg]; exact (below_size qb) : w.heap.size ≤ gb102)); have n4_ := Aside0.mk ((by rw [hg]; exact (below_size qb) : w.heap.size ≤ gb102)); have n5_ := Aside0.mk ((by rw [hg]; exact Nat.ne_of_lt (blk_lt (g := gb101) (o := .cells #[.slice A0_0 l0_0.length c0_0, .slice A0_1 l0_1.length c0_1, .slice A0_2 l0_2.length c0_2, .slice A0_3 l0_3.length c0_3, .slice A0_4 l0_4.length c0_4] 80 (0, 0)) (by (with_reducible repeat (first | refine blk_drewN ?_ _ | refine blk_drew ?_ | refine blk_alloc ?_ _)); exact BK101.out)) : gb101 ≠ gb102)); have n6_ := Aside0.mk ((by rw [hg]; exact Nat.ne_of_gt (blk_lt (g := gb101) (o := .cells #[.slice A0_0 l0_0.length c0_0, .slice A0_1 l0_1.length c0_1, .slice A0_2 l0_2.length c0_2, .slice A0_3 l0_3.length c0_3, .slice A0_4 l0_4.length c0_4] 80 (0, 0)) (by (with_reducible repeat (first | refine blk_drewN ?_ _ | refine blk_drew ?_ | refine blk_alloc ?_ _)); exact BK101.out)) : gb102 ≠ gb101)); clear BK101; clear HB; have BK101 := n0_; have HB := n1_; have BK102 := n2_; have GW102 := n3_; have GE102 := n4_; have NB101_102 := n5_; have NB102_101 := n6_; clear n0_ n1_ n2_ n3_ n4_ n5_ n6_; clear hb hbox hg))
  (try simp only [Act.put, List.setIfInBounds_toArray, List.set_cons_zero, List.set_cons_succ])
  go_cut [28] (fun v28 wc => ∃ (kq : Nat) (x28_2 : Bool), v28 = .bool x28_2 ∧ Aside0 (phase_Right.j0 kq x28_2 l0_0 l0_1 l0_2 l0_3 l0_4 a1_0 a1_1 a1_2 a1_3 a1_4 a1_5 a1_6 l1_7 = some r) ∧ Aside0 (kq ≤ k) ∧ Aside0 (wc.heap[gb101]? = some (.cells #[(.slice A0_0 l0_0.length c0_0), (.slice A0_1 l0_1.length c0_1), (.slice A0_2 l0_2.length c0_2), (.slice A0_3 l0_3.length c0_3), (.slice A0_4 l0_4.length c0_4)] 80 (0, 0))) ∧ Aside0 (wc.heap[gb102]? = some (.cells #[.int .i64 a1_0, .int .i64 a1_1, .int .i64 a1_2, .int .i64 a1_3, .int .i64 a1_4, .bool a1_5, .int .i64 a1_6, (.slice A1_7 l1_7.length c1_7)] 82 (0, 0))) ∧ Aside0 (Below w.heap.size w wc))
  case first =>
    have H := HC3.out
    clear HC3
    by_cases c6 : a1_0 < 0
    · rw [if_pos c6] at H
      have c6b0 : decide (a1_0 < 0) = true := decide_eq_true c6
      clear c6
      (first | rw [c6b0] | (simp only [i64_w, i32_w]; rw [c6b0]) | skip)
      have H' := Aside0.mk H
      clear H
      have hnb7 := NB102_101.out
      have hnc7 := NB101_102.out
      obtain ⟨_, _, _, _, _, _, _, _, _, _, _, _, _, _, _, _⟩ := q8 BK102.out
      go_wp2
      go_meet
      case rel => exact ⟨_, (true), qv, H', ql, qk101, qk102, qB⟩
    rw [if_neg c6] at H
    have c6b0 : decide (a1_0 < 0) = false := decide_eq_false c6
    clear c6
    (first | rw [c6b0] | (simp only [i64_w, i32_w]; rw [c6b0]) | skip)
    by_cases c9 : a1_0 ≥ 12
    · rw [if_pos c9] at H
      have c9b0 : decide (12 ≤ a1_0) = true := decide_eq_true c9
      clear c9
      have H' := Aside0.mk H
      clear H
      have hnb10 := NB102_101.out
      have hnc10 := NB101_102.out
      obtain ⟨_, _, _, _, _, _, _, _, _, _, _, _, _, _, _, _⟩ := q8 BK102.out
      go_wp2
      go_meet
      case rel => exact ⟨_, (true), qv, H', ql, qk101, qk102, qB⟩
    rw [if_neg c9] at H
    have c9b0 : decide (12 ≤ a1_0) = false := decide_eq_false c9
    clear c9
    replace H := qi H
    obtain ⟨t103, A12, H⟩ := H
    by_cases c13 : t103 = true
    · subst c13
      rw [if_pos rfl] at H
      replace H := qi H
      obtain ⟨t104, A14, H⟩ := H
      have H' := Aside0.mk H
      clear H
      have hnb15 := NB102_101.out
      have hnc15 := NB101_102.out
      obtain ⟨_, _, _, _, _, _, _, _, _, _, _, _, _, _, _, _⟩ := q8 BK102.out
      obtain ⟨_, _, _, _, _, _, _, _, _, _⟩ := q5 BK101.out
      go_wp2_with (first | (go_at_call 41; (with_reducible refine (prog_Right.calls _ _ l0_0 a1_1 a1_2 true _ ?side1 ?side2 A12.out).mono ?_); (case side1 => exact qC HR0_0.out); (case side2 => exact HC0_0.out); rintro e w18 ⟨rfl, hb⟩; have n0_ := qn101 (g := gb101) hb; have n1_ := qn102 (g := gb102) hb; have n2_ := qs hb; clear BK101; clear BK102; clear HB; have BK101 := n0_; have BK102 := n1_; have HB := n2_; clear n0_ n1_ n2_; (try clear hb); obtain ⟨_, _, _, _, _, _, _, _, _, _, _, _, _, _, _, _⟩ := q8 BK102.out) | (go_at_call 82; (with_reducible refine (phase_named.calls _ _ l1_7 t104 _ ?side1 ?side2 A14.out (by first | exact HT0.out | exact UT.below HT0.out qb)).mono ?_); (case side1 => exact qC HR1_7.out); (case side2 => exact HC1_7.out); rintro e w20 ⟨rfl, hb⟩; have n0_ := qn101 (g := gb101) hb; have n1_ := qn102 (g := gb102) hb; have n2_ := qs hb; clear BK101; clear BK102; clear HB; have BK101 := n0_; have BK102 := n1_; have HB := n2_; clear n0_ n1_ n2_; (try clear hb)))
      go_meet
      case rel => exact ⟨_, (!t104), qv, H', ql, qk101, qk102, qB⟩
    replace c13 := Bool.eq_false_iff.mpr c13
    subst c13
    rw [if_neg qf] at H
    have H' := Aside0.mk H
    clear H
    have hnb21 := NB102_101.out
    have hnc21 := NB101_102.out
    obtain ⟨_, _, _, _, _, _, _, _, _, _, _, _, _, _, _, _⟩ := q8 BK102.out
    obtain ⟨_, _, _, _, _, _, _, _, _, _⟩ := q5 BK101.out
    go_wp2_with (first | (go_at_call 41; (with_reducible refine (prog_Right.calls _ _ l0_0 a1_1 a1_2 false _ ?side1 ?side2 A12.out).mono ?_); (case side1 => exact qC HR0_0.out); (case side2 => exact HC0_0.out); rintro e w24 ⟨rfl, hb⟩; have n0_ := qn101 (g := gb101) hb; have n1_ := qn102 (g := gb102) hb; have n2_ := qs hb; clear BK101; clear BK102; clear HB; have BK101 := n0_; have BK102 := n1_; have HB := n2_; clear n0_ n1_ n2_; (try clear hb)))
    go_meet
    case rel => exact ⟨_, (true), qv, H', ql, qk101, qk102, qB⟩
  clear HC3
  obtain ⟨kq, x28_2, rfl, HA, HJ2, BK101, BK102, HB⟩ := hcut
  cases kq with
  | zero => exact absurd HA.out (by simp [phase_Right.j0])
  | succ kj2 =>
    have H := HA.out
    clear HA
    simp only [phase_Right.j0] at H
    by_cases c25 : x28_2 = true
    · subst c25
      rw [if_pos rfl] at H
      obtain rfl := Option.some.inj H
      go_wp2
      go_ret
      exact qr
    replace c25 := Bool.eq_false_iff.mpr c25
    subst c25
    rw [if_neg qf] at H
    replace H := qi H
    obtain ⟨⟨t105, t108⟩, A26, H⟩ := H
    replace H : (if t108 = true then (if a1_0 = 1 then (some (a1_3 == 0 && (a1_4 == 0))) else ((prog_Right.f t105 a1_3 a1_4).bind fun t109 => (some t109))) else (some (a1_3 == 0 && (a1_4 == 0)))) = some r := H
    by_cases c27 : t108 = true
    · subst c27
      rw [if_pos rfl] at H
      by_cases c28 : a1_0 = 1
      · rw [if_pos c28] at H
        obtain ⟨c28b0, c28b1⟩ := qe c28
        clear c28
        obtain rfl := Option.some.inj H
        have hnb29 := NB101_102.out
        have hnc29 := NB102_101.out
        obtain ⟨_, _, _, _, _, _, _, _, _, _⟩ := q5 BK101.out
        obtain ⟨_, _, _, _, _, _, _, _, _, _, _, _, _, _, _, _⟩ := q8 BK102.out
        go_wp2_with (first | ((with_reducible refine gate_callee (f := 83) rfl ?_); refine goesL_ (some 33) rfl rfl Tryd.func83 (by kernel_rfl) rfl #[.agg #[.slice A0_0 l0_0.length c0_0, .slice A0_1 l0_1.length c0_1, .slice A0_2 l0_2.length c0_2, .slice A0_3 l0_3.length c0_3, .slice A0_4 l0_4.length c0_4], .int .i64 a1_0] rfl qm ?_; (with_reducible refine (phase_find.calls (fun k_ => k_ < w.heap.size) _ _ l0_0 (fun k_ => k_ < w.heap.size) _ _ l0_1 (fun k_ => k_ < w.heap.size) _ _ l0_2 (fun k_ => k_ < w.heap.size) _ _ l0_3 (fun k_ => k_ < w.heap.size) _ _ l0_4 a1_0 t105 true _ ?side1 ?side2 ?side3 ?side4 ?side5 A26.out).mono ?_); (case side1 => exact Kd.V_mk HC0_0.out (Kd.F_below (Kd.C_F k67_heap HR0_0.out) qb)); (case side2 => exact Kd.V_mk HC0_1.out (Kd.F_below (Kd.C_F k67_heap HR0_1.out) qb)); (case side3 => exact Kd.V_mk HC0_2.out (Kd.F_below (Kd.C_F k67_heap HR0_2.out) qb)); (case side4 => exact Kd.V_mk HC0_3.out (Kd.F_below (Kd.C_F k67_heap HR0_3.out) qb)); (case side5 => exact Kd.V_mk HC0_4.out (Kd.F_below (Kd.C_F k67_heap HR0_4.out) qb)); rintro e w32 ⟨v106, rfl, ho0, hb⟩; refine ⟨_, rfl, ?_⟩; have n0_ := Aside0.mk (Kd.V_lower (Kd.V_mono (ok' := fun k_ => k_ ≠ gb101 ∧ k_ ≠ gb102) ho0 (fun k_ hk_ => ⟨Or.elim hk_ (fun hs_ => Or.elim hs_ (fun hs_ => fun e_ => Nat.not_le.2 hs_ (by rw [e_]; exact GW101.out)) (fun hs_ => Or.elim hs_ (fun hs_ => fun e_ => Nat.not_le.2 hs_ (by rw [e_]; exact GW101.out)) (fun hs_ => Or.elim hs_ (fun hs_ => fun e_ => Nat.not_le.2 hs_ (by rw [e_]; exact GW101.out)) (fun hs_ => Or.elim hs_ (fun hs_ => fun e_ => Nat.not_le.2 hs_ (by rw [e_]; exact GW101.out)) (fun hs_ => fun e_ => Nat.not_le.2 hs_ (by rw [e_]; exact GW101.out)))))) (fun hn_ => (Kd.freshB (g := gb101) (o := .cells #[.slice A0_0 l0_0.length c0_0, .slice A0_1 l0_1.length c0_1, .slice A0_2 l0_2.length c0_2, .slice A0_3 l0_3.length c0_3, .slice A0_4 l0_4.length c0_4] 80 (0, 0)) (by (with_reducible repeat (first | refine blk_drewN ?_ _ | refine blk_drew ?_ | refine blk_alloc ?_ _)); exact BK101.out) k_ hn_)), Or.elim hk_ (fun hs_ => Or.elim hs_ (fun hs_ => fun e_ => Nat.not_le.2 hs_ (by rw [e_]; exact GW102.out)) (fun hs_ => Or.elim hs_ (fun hs_ => fun e_ => Nat.not_le.2 hs_ (by rw [e_]; exact GW102.out)) (fun hs_ => Or.elim hs_ (fun hs_ => fun e_ => Nat.not_le.2 hs_ (by rw [e_]; exact GW102.out)) (fun hs_ => Or.elim hs_ (fun hs_ => fun e_ => Nat.not_le.2 hs_ (by rw [e_]; exact GW102.out)) (fun hs_ => fun e_ => Nat.not_le.2 hs_ (by rw [e_]; exact GW102.out)))))) (fun hn_ => (Kd.freshB (g := gb102) (o := .cells #[.int .i64 a1_0, .int .i64 a1_1, .int .i64 a1_2, .int .i64 a1_3, .int .i64 a1_4, .bool a1_5, .int .i64 a1_6, .slice A1_7 l1_7.length c1_7] 82 (0, 0)) (by (with_reducible repeat (first | refine blk_drewN ?_ _ | refine blk_drew ?_ | refine blk_alloc ?_ _)); exact BK102.out) k_ hn_))⟩)) (below_size qb)); have n1_ := qn101 (g := gb101) hb; have n2_ := qn102 (g := gb102) hb; have n3_ := qs hb; clear BK101; clear BK102; clear HB; have HO107 := n0_; have BK101 := n1_; have BK102 := n2_; have HB := n3_; clear n0_ n1_ n2_ n3_; (try clear hb); (try clear ho0); obtain ⟨_, _, _, _, _, _, _, _, _, _, _, _, _, _, _, _⟩ := q8 BK102.out))
        go_ret
        exact qr
      rw [if_neg c28] at H
      obtain ⟨c28b0, c28b1⟩ := qd c28
      replace H := qi H
      obtain ⟨t109, A34, H⟩ := H
      obtain rfl := Option.some.inj H
      have hnb35 := NB101_102.out
      have hnc35 := NB102_101.out
      obtain ⟨_, _, _, _, _, _, _, _, _, _⟩ := q5 BK101.out
      obtain ⟨_, _, _, _, _, _, _, _, _, _, _, _, _, _, _, _⟩ := q8 BK102.out
      go_wp2_with (first | ((with_reducible refine gate_callee (f := 83) rfl ?_); refine goesL_ (some 33) rfl rfl Tryd.func83 (by kernel_rfl) rfl #[.agg #[.slice A0_0 l0_0.length c0_0, .slice A0_1 l0_1.length c0_1, .slice A0_2 l0_2.length c0_2, .slice A0_3 l0_3.length c0_3, .slice A0_4 l0_4.length c0_4], .int .i64 a1_0] rfl qm ?_; (with_reducible refine (phase_find.calls (fun k_ => k_ < w.heap.size) _ _ l0_0 (fun k_ => k_ < w.heap.size) _ _ l0_1 (fun k_ => k_ < w.heap.size) _ _ l0_2 (fun k_ => k_ < w.heap.size) _ _ l0_3 (fun k_ => k_ < w.heap.size) _ _ l0_4 a1_0 t105 true _ ?side1 ?side2 ?side3 ?side4 ?side5 A26.out).mono ?_); (case side1 => exact Kd.V_mk HC0_0.out (Kd.F_below (Kd.C_F k67_heap HR0_0.out) qb)); (case side2 => exact Kd.V_mk HC0_1.out (Kd.F_below (Kd.C_F k67_heap HR0_1.out) qb)); (case side3 => exact Kd.V_mk HC0_2.out (Kd.F_below (Kd.C_F k67_heap HR0_2.out) qb)); (case side4 => exact Kd.V_mk HC0_3.out (Kd.F_below (Kd.C_F k67_heap HR0_3.out) qb)); (case side5 => exact Kd.V_mk HC0_4.out (Kd.F_below (Kd.C_F k67_heap HR0_4.out) qb)); rintro e w38 ⟨v106, rfl, ho0, hb⟩; refine ⟨_, rfl, ?_⟩; have n0_ := Aside0.mk (Kd.V_lower (Kd.V_mono (ok' := fun k_ => k_ ≠ gb101 ∧ k_ ≠ gb102) ho0 (fun k_ hk_ => ⟨Or.elim hk_ (fun hs_ => Or.elim hs_ (fun hs_ => fun e_ => Nat.not_le.2 hs_ (by rw [e_]; exact GW101.out)) (fun hs_ => Or.elim hs_ (fun hs_ => fun e_ => Nat.not_le.2 hs_ (by rw [e_]; exact GW101.out)) (fun hs_ => Or.elim hs_ (fun hs_ => fun e_ => Nat.not_le.2 hs_ (by rw [e_]; exact GW101.out)) (fun hs_ => Or.elim hs_ (fun hs_ => fun e_ => Nat.not_le.2 hs_ (by rw [e_]; exact GW101.out)) (fun hs_ => fun e_ => Nat.not_le.2 hs_ (by rw [e_]; exact GW101.out)))))) (fun hn_ => (Kd.freshB (g := gb101) (o := .cells #[.slice A0_0 l0_0.length c0_0, .slice A0_1 l0_1.length c0_1, .slice A0_2 l0_2.length c0_2, .slice A0_3 l0_3.length c0_3, .slice A0_4 l0_4.length c0_4] 80 (0, 0)) (by (with_reducible repeat (first | refine blk_drewN ?_ _ | refine blk_drew ?_ | refine blk_alloc ?_ _)); exact BK101.out) k_ hn_)), Or.elim hk_ (fun hs_ => Or.elim hs_ (fun hs_ => fun e_ => Nat.not_le.2 hs_ (by rw [e_]; exact GW102.out)) (fun hs_ => Or.elim hs_ (fun hs_ => fun e_ => Nat.not_le.2 hs_ (by rw [e_]; exact GW102.out)) (fun hs_ => Or.elim hs_ (fun hs_ => fun e_ => Nat.not_le.2 hs_ (by rw [e_]; exact GW102.out)) (fun hs_ => Or.elim hs_ (fun hs_ => fun e_ => Nat.not_le.2 hs_ (by rw [e_]; exact GW102.out)) (fun hs_ => fun e_ => Nat.not_le.2 hs_ (by rw [e_]; exact GW102.out)))))) (fun hn_ => (Kd.freshB (g := gb102) (o := .cells #[.int .i64 a1_0, .int .i64 a1_1, .int .i64 a1_2, .int .i64 a1_3, .int .i64 a1_4, .bool a1_5, .int .i64 a1_6, .slice A1_7 l1_7.length c1_7] 82 (0, 0)) (by (with_reducible repeat (first | refine blk_drewN ?_ _ | refine blk_drew ?_ | refine blk_alloc ?_ _)); exact BK102.out) k_ hn_))⟩)) (below_size qb)); have n1_ := qn101 (g := gb101) hb; have n2_ := qn102 (g := gb102) hb; have n3_ := qs hb; clear BK101; clear BK102; clear HB; have HO107 := n0_; have BK101 := n1_; have BK102 := n2_; have HB := n3_; clear n0_ n1_ n2_ n3_; (try clear hb); (try clear ho0); obtain ⟨_, _, _, _, _, _, _, _, _, _, _, _, _, _, _, _⟩ := q8 BK102.out; obtain ⟨Ao40, co40, eo40⟩ := Kd.V_slice HO107.out; subst eo40) | ((with_reducible refine gate_callee (f := 41) rfl ?_); refine goesL_ (some 50) rfl rfl Tryd.func41 (by kernel_rfl) rfl #[.slice Ao40 t105.length co40, .agg #[.int .i64 a1_3, .int .i64 a1_4]] rfl qm ?_; (with_reducible refine (prog_Right.calls _ _ t105 a1_3 a1_4 t109 _ ?side1 ?side2 A34.out).mono ?_); (case side1 => repeat (first | exact (Kd.V_reads' HO107.out).2.2 | (with_reducible refine Kd.C_alloc ?_ _) | (with_reducible refine Kd.C_drewN ?_ _) | (with_reducible refine Kd.C_drew ?_))); (case side2 => exact (Kd.V_reads' HO107.out).2.1); rintro e w41 ⟨rfl, hb⟩; refine ⟨_, rfl, ?_⟩; have n0_ := Aside0.mk (Kd.V_below (by (with_reducible repeat (first | apply Kd.V_alloc | apply Kd.V_drewN | apply Kd.V_drew)); exact HO107.out) hb); have n1_ := qn101 (g := gb101) hb; have n2_ := qn102 (g := gb102) hb; have n3_ := qs hb; clear HO107; clear BK101; clear BK102; clear HB; have HO107 := n0_; have BK101 := n1_; have BK102 := n2_; have HB := n3_; clear n0_ n1_ n2_ n3_; (try clear hb)))
      go_ret
      exact qr
    replace c27 := Bool.eq_false_iff.mpr c27
    subst c27
    rw [if_neg qf] at H
    obtain rfl := Option.some.inj H
    have hnb42 := NB101_102.out
    have hnc42 := NB102_101.out
    obtain ⟨_, _, _, _, _, _, _, _, _, _⟩ := q5 BK101.out
    obtain ⟨_, _, _, _, _, _, _, _, _, _, _, _, _, _, _, _⟩ := q8 BK102.out
    go_wp2_with (first | ((with_reducible refine gate_callee (f := 83) rfl ?_); refine goesL_ (some 33) rfl rfl Tryd.func83 (by kernel_rfl) rfl #[.agg #[.slice A0_0 l0_0.length c0_0, .slice A0_1 l0_1.length c0_1, .slice A0_2 l0_2.length c0_2, .slice A0_3 l0_3.length c0_3, .slice A0_4 l0_4.length c0_4], .int .i64 a1_0] rfl qm ?_; (with_reducible refine (phase_find.calls (fun k_ => k_ < w.heap.size) _ _ l0_0 (fun k_ => k_ < w.heap.size) _ _ l0_1 (fun k_ => k_ < w.heap.size) _ _ l0_2 (fun k_ => k_ < w.heap.size) _ _ l0_3 (fun k_ => k_ < w.heap.size) _ _ l0_4 a1_0 t105 false _ ?side1 ?side2 ?side3 ?side4 ?side5 A26.out).mono ?_); (case side1 => exact Kd.V_mk HC0_0.out (Kd.F_below (Kd.C_F k67_heap HR0_0.out) qb)); (case side2 => exact Kd.V_mk HC0_1.out (Kd.F_below (Kd.C_F k67_heap HR0_1.out) qb)); (case side3 => exact Kd.V_mk HC0_2.out (Kd.F_below (Kd.C_F k67_heap HR0_2.out) qb)); (case side4 => exact Kd.V_mk HC0_3.out (Kd.F_below (Kd.C_F k67_heap HR0_3.out) qb)); (case side5 => exact Kd.V_mk HC0_4.out (Kd.F_below (Kd.C_F k67_heap HR0_4.out) qb)); rintro e w45 ⟨v106, rfl, ho0, hb⟩; refine ⟨_, rfl, ?_⟩; have n0_ := Aside0.mk (Kd.V_lower (Kd.V_mono (ok' := fun k_ => k_ ≠ gb101 ∧ k_ ≠ gb102) ho0 (fun k_ hk_ => ⟨Or.elim hk_ (fun hs_ => Or.elim hs_ (fun hs_ => fun e_ => Nat.not_le.2 hs_ (by rw [e_]; exact GW101.out)) (fun hs_ => Or.elim hs_ (fun hs_ => fun e_ => Nat.not_le.2 hs_ (by rw [e_]; exact GW101.out)) (fun hs_ => Or.elim hs_ (fun hs_ => fun e_ => Nat.not_le.2 hs_ (by rw [e_]; exact GW101.out)) (fun hs_ => Or.elim hs_ (fun hs_ => fun e_ => Nat.not_le.2 hs_ (by rw [e_]; exact GW101.out)) (fun hs_ => fun e_ => Nat.not_le.2 hs_ (by rw [e_]; exact GW101.out)))))) (fun hn_ => (Kd.freshB (g := gb101) (o := .cells #[.slice A0_0 l0_0.length c0_0, .slice A0_1 l0_1.length c0_1, .slice A0_2 l0_2.length c0_2, .slice A0_3 l0_3.length c0_3, .slice A0_4 l0_4.length c0_4] 80 (0, 0)) (by (with_reducible repeat (first | refine blk_drewN ?_ _ | refine blk_drew ?_ | refine blk_alloc ?_ _)); exact BK101.out) k_ hn_)), Or.elim hk_ (fun hs_ => Or.elim hs_ (fun hs_ => fun e_ => Nat.not_le.2 hs_ (by rw [e_]; exact GW102.out)) (fun hs_ => Or.elim hs_ (fun hs_ => fun e_ => Nat.not_le.2 hs_ (by rw [e_]; exact GW102.out)) (fun hs_ => Or.elim hs_ (fun hs_ => fun e_ => Nat.not_le.2 hs_ (by rw [e_]; exact GW102.out)) (fun hs_ => Or.elim hs_ (fun hs_ => fun e_ => Nat.not_le.2 hs_ (by rw [e_]; exact GW102.out)) (fun hs_ => fun e_ => Nat.not_le.2 hs_ (by rw [e_]; exact GW102.out)))))) (fun hn_ => (Kd.freshB (g := gb102) (o := .cells #[.int .i64 a1_0, .int .i64 a1_1, .int .i64 a1_2, .int .i64 a1_3, .int .i64 a1_4, .bool a1_5, .int .i64 a1_6, .slice A1_7 l1_7.length c1_7] 82 (0, 0)) (by (with_reducible repeat (first | refine blk_drewN ?_ _ | refine blk_drew ?_ | refine blk_alloc ?_ _)); exact BK102.out) k_ hn_))⟩)) (below_size qb)); have n1_ := qn101 (g := gb101) hb; have n2_ := qn102 (g := gb102) hb; have n3_ := qs hb; clear BK101; clear BK102; clear HB; have HO107 := n0_; have BK101 := n1_; have BK102 := n2_; have HB := n3_; clear n0_ n1_ n2_ n3_; (try clear hb); (try clear ho0); obtain ⟨_, _, _, _, _, _, _, _, _, _, _, _, _, _, _, _⟩ := q8 BK102.out))
    go_ret
    exact qr
end Go.Proofs.YtiaccdaeomaogaaDoor.F
