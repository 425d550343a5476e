/- Texts of one claim, slimmed and merged by slim.py. -/
import Derived.Test.YtiaccdaeomaogaaDoorT4
import Derived.Test.YtiaccdaeomaogaaDoorT7
import Derived.Test.YtiaccdaeomaogaaDoorT19
namespace Go.Proofs.YtiaccdaeomaogaaDoor.F
open Go.RowKit Go.Proofs.YtiaccdaeomaogaaDoorW.PrintWords Go.Proofs.YtiaccdaeomaogaaDoorW.PrintLast Go.Proofs.YtiaccdaeomaogaaDoorW.PrintMore
attribute [local go_sem] max2_int min2_int max_two min_two max_three min_three max_four min_four   -- for this text's walks alone
set_option linter.unusedVariables false
set_option linter.unusedSimpArgs false
def prog_Check.l0 : Nat → List (S67) → List ByteArray → List ByteArray → List ByteArray → List (S67) → Int → Int → Option (Int)
  | 0, _, _, _, _, _, _, _ => none
  | k + 1, x0, x1, x2, x3, x15, x16, x17 => if x17 < x16 then (if 0 ≤ x17 then (if x17 < (x15.length : Int) then ((prog_names_step.f k x1 x2 x3 ((rd_T67 x15 x17).f0) ((rd_T67 x15 x17).f1) ((rd_T67 x15 x17).f2) ((rd_T67 x15 x17).f3.f0) ((rd_T67 x15 x17).f3.f1) ((rd_T67 x15 x17).f3.f2) ((rd_T67 x15 x17).f3.f3) ((rd_T67 x15 x17).f4) (x0.length : Int)).bind fun t103 => (if t103 = 0 then (prog_Check.l0 k x0 x1 x2 x3 x15 x16 (wrap64 (x17 + 1))) else (some t103))) else (none)) else (none)) else (some 0)
def prog_Check.f (k : Nat) (l0 : List (S67)) (l1 : List ByteArray) (l2 : List ByteArray) (l3 : List ByteArray) : Option (Int) := if (l0.length : Int) > 16 then (some 2) else (prog_Check.l0 k l0 l1 l2 l3 l0 (l0.length : Int) 0)
theorem prog_Check.mono_l : ∀ k, (∀ y0 y1 y2 y3 y4 y5 y6, LeO (prog_Check.l0 k y0 y1 y2 y3 y4 y5 y6) (prog_Check.l0 (k + 1) y0 y1 y2 y3 y4 y5 y6))
  | 0 => fun _ _ _ _ _ _ _ r h => by simp [prog_Check.l0] at h
  | k + 1 => by
    have ih0 := prog_Check.mono_l k
    intro y0 y1 y2 y3 y4 y5 y6
    unfold prog_Check.l0
    repeat' first
    | (with_reducible exact ih0 _ _ _ _ _ _ _)
    | (with_reducible exact prog_names_step.mono _ _ _ _ _ _ _ _ _ _ _ _ _)
    | (with_reducible exact LeO.refl _)
    | (with_reducible exact LeO.none _)
    | (with_reducible refine LeO.ite ?_ ?_)
    | (with_reducible refine LeO.bind ?_ (fun _ => ?_))
    | exact ih0 _ _ _ _ _ _ _
    | exact prog_names_step.mono _ _ _ _ _ _ _ _ _ _ _ _ _
    | exact LeO.none _
    | refine LeO.ite ?_ ?_
    | refine LeO.bind ?_ (fun _ => ?_)
theorem prog_Check.mono : ∀ a0 a1 a2 a3 k, LeO (prog_Check.f k a0 a1 a2 a3) (prog_Check.f (k + 1) a0 a1 a2 a3) := by
  intro a0 a1 a2 a3 k
  have ih0 := prog_Check.mono_l k
  unfold prog_Check.f
  repeat' first
      | (with_reducible exact ih0 _ _ _ _ _ _ _)
      | (with_reducible exact prog_names_step.mono _ _ _ _ _ _ _ _ _ _ _ _ _)
      | (with_reducible exact LeO.refl _)
      | (with_reducible exact LeO.none _)
      | (with_reducible refine LeO.ite ?_ ?_)
      | (with_reducible refine LeO.bind ?_ (fun _ => ?_))
      | exact ih0 _ _ _ _ _ _ _
      | exact prog_names_step.mono _ _ _ _ _ _ _ _ _ _ _ _ _
      | exact LeO.none _
      | refine LeO.ite ?_ ?_
      | refine LeO.bind ?_ (fun _ => ?_)
set_option maxHeartbeats 8000000 in
set_option maxRecDepth 100000 in
theorem prog_Check.calls (k : Nat) (A0 : Option Addr) (c0 : Nat) (l0 : List (S67)) (A1 : Option Addr) (c1 : Nat) (l1 : List ByteArray) (A2 : Option Addr) (c2 : Nat) (l2 : List ByteArray) (A3 : Option Addr) (c3 : Nat) (l3 : List ByteArray) (r : Int) (w : World) (hr0 : Kd.C k67 w A0 l0.length l0) (hc0 : l0.length ≤ c0) (hr1 : Kd.C Kd.string w A1 l1.length l1) (hc1 : l1.length ≤ c1) (hr2 : Kd.C Kd.string w A2 l2.length l2) (hc2 : l2.length ≤ c2) (hr3 : Kd.C Kd.string w A3 l3.length l3) (hc3 : l3.length ≤ c3) (h : prog_Check.f k l0 l1 l2 l3 = some r) (hT : UT w) :
  Calls Tryd.prog 44 #[.slice A0 l0.length c0, .slice A1 l1.length c1, .slice A2 l2.length c2, .slice A3 l3.length c3] w fun e w' => e = .returned (.int .i64 r) ∧ Below w.heap.size w w' := by
 have HT0 := Aside0.mk hT
 clear hT
 have hu67 := Tryd.underlying67
 have hu121 := Tryd.underlying121
 have HR0 := Aside0.mk hr0
 have HC0 := Aside0.mk hc0
 clear hr0 hc0
 have HR1 := Aside0.mk hr1
 have HC1 := Aside0.mk hc1
 clear hr1 hc1
 have HR2 := Aside0.mk hr2
 have HC2 := Aside0.mk hc2
 clear hr2 hc2
 have HR3 := Aside0.mk hr3
 have HC3 := Aside0.mk hc3
 clear hr3 hc3
 have HB := Aside0.mk (Below.refl w.heap.size w)
 have H : (if (l0.length : Int) > 16 then (some 2) else (prog_Check.l0 k l0 l1 l2 l3 l0 (l0.length : Int) 0)) = some r := h
 clear h
 by_cases c5 : (l0.length : Int) > 16
 ·rw [if_pos c5] at H
  have c5b0 : decide (16 < (l0.length : Int)) = true := decide_eq_true c5
  have c5b1 : decide (16 < l0.length) = true := decide_eq_true (by omega)
  clear c5
  obtain rfl := Option.some.inj H
  go_enter Tryd.func44, Tryd.ntmps44
  go_wp2
  go_ret
  exact qr
 rw [if_neg c5] at H
 have c5b0 : decide (16 < (l0.length : Int)) = false := decide_eq_false c5
 have c5b1 : decide (16 < l0.length) = false := decide_eq_false (by omega)
 clear c5
 have H' := Aside0.mk H
 clear H
 go_enter Tryd.func44, Tryd.ntmps44
 go_wp2
 go_loopg [17] k (fun kq v17 w' => ∃ (x17_1 : Int), v17 = .int .i64 x17_1 ∧ Aside0 (prog_Check.l0 kq l0 l1 l2 l3 l0 (l0.length : Int) x17_1 = some r) ∧ Aside0 (kq ≤ k) ∧ Aside0 (Below w.heap.size w w'))
 case atStart => exact ⟨(0), qv, H', ⟨Nat.le_refl _⟩, qB⟩
 case round =>
  clear H'
  obtain ⟨x17_1, rfl, HA, HK1, HB⟩ := hrel
  cases gk with
  | zero => exact absurd HA.out (by simp [prog_Check.l0])
  | succ k1 =>
   have H := HA.out
   clear HA
   simp only [prog_Check.l0] at H
   by_cases c6 : x17_1 < (l0.length : Int)
   ·rw [if_pos c6] at H
    have c6b0 : decide (x17_1 < (l0.length : Int)) = true := decide_eq_true c6
    clear c6
    by_cases c7 : 0 ≤ x17_1
    ·rw [if_pos c7] at H
     have c7b0 : decide (0 ≤ x17_1) = true := decide_eq_true c7
     clear c7
     by_cases c8 : x17_1 < (l0.length : Int)
     ·rw [if_pos c8] at H
      have c8b0 : decide (x17_1 < (l0.length : Int)) = true := decide_eq_true c8
      clear c8
      replace H := qi H
      obtain ⟨t103, A9, H⟩ := H
      by_cases c10 : t103 = 0
      ·rw [if_pos c10] at H
       obtain ⟨c10b0, c10b1⟩ := qe c10
       clear c10
       have H' := Aside0.mk H
       clear H
       have p101 : 0 ≤ (x17_1 : Int) := qa
       have q101 : x17_1 < (l0.length : Int) := qa
       obtain ⟨ad101, A101_6, c101_6, e101, hx101_0, hx101_1, hx101_2, hx101_3, hx101_4, hx101_5, hx101_6, hx101_7, hl101_6, hi101_6⟩ := at_T67 HR0.out x17_1 p101 q101
       cases e101
       replace hx101_0 := qc HB.out hx101_0
       replace hx101_1 := qc HB.out hx101_1
       replace hx101_2 := qc HB.out hx101_2
       replace hx101_3 := qc HB.out hx101_3
       replace hx101_4 := qc HB.out hx101_4
       replace hx101_5 := qc HB.out hx101_5
       replace hx101_6 := qc HB.out hx101_6
       replace hx101_7 := qc HB.out hx101_7
       have HR101_6 := Aside0.mk hi101_6
       have HC101_6 := Aside0.mk hl101_6
       clear hi101_6 hl101_6
       replace p101 := eq_true p101
       replace q101 := eq_true q101
       go_wp2_with (first | ((with_reducible refine gate_dst (N := 10) rfl ?_); refine box_event ?hg (N := 10) ?hd (cs := #[.int .i64 0, .string (⟨#[]⟩ : ByteArray), .string (⟨#[]⟩ : ByteArray), .int .i64 0, .int .i64 0, .string (⟨#[]⟩ : ByteArray), .slice none 0 0, .int .i64 0]) (t := 67) ?hr ?_; (case hd => rfl); (case hg => rfl); (case hr => first | (go_simp; done) | (go_simp; rfl)); intro gb102 hg w11 hbox hb; have n0_ := qs hb; have n1_ := Aside0.mk (hbox); have n2_ := Aside0.mk ((by rw [hg]; exact (below_size qb) : w.heap.size ≤ gb102)); have n3_ := Aside0.mk ((by rw [hg]; exact (below_size qb) : w.heap.size ≤ gb102)); clear HB; have HB := n0_; have BK102 := n1_; have GW102 := n2_; have GE102 := n3_; clear n0_ n1_ n2_ n3_; clear hb hbox hg; obtain ⟨_, _, _, _, _, _, _, _, _, _, _, _, _, _, _, _⟩ := q8 BK102.out) | ((with_reducible refine gate_callee (f := 73) rfl ?_); refine goesL_ (some 28) rfl rfl Tryd.func73 (by kernel_rfl) rfl #[.agg #[.slice A1 l1.length c1, .slice A2 l2.length c2, .slice A3 l3.length c3], .agg #[.int .i64 ((rd_T67 l0 x17_1).f0), .string ((rd_T67 l0 x17_1).f1), .string ((rd_T67 l0 x17_1).f2), .int .i64 ((rd_T67 l0 x17_1).f3.f0), .int .i64 ((rd_T67 l0 x17_1).f3.f1), .string ((rd_T67 l0 x17_1).f3.f2), .slice A101_6 ((rd_T67 l0 x17_1).f3.f3).length c101_6, .int .i64 ((rd_T67 l0 x17_1).f4)], .int .i64 (l0.length : Int)] rfl qm ?_; (with_reducible refine (prog_names_step.calls k1 _ _ l1 _ _ l2 _ _ l3 ((rd_T67 l0 x17_1).f0) ((rd_T67 l0 x17_1).f1) ((rd_T67 l0 x17_1).f2) ((rd_T67 l0 x17_1).f3.f0) ((rd_T67 l0 x17_1).f3.f1) ((rd_T67 l0 x17_1).f3.f2) _ _ ((rd_T67 l0 x17_1).f3.f3) ((rd_T67 l0 x17_1).f4) (l0.length : Int) t103 _ ?side1 ?side2 ?side3 ?side4 ?side5 ?side6 ?side7 ?side8 A9.out (by first | exact HT0.out | exact UT.below HT0.out (by repeat (first | exact HB.out | exact Below.refl _ _ | apply below_alloc | apply pw_below_drewN | apply below_drew1 | refine below_set ?_ GE101.out | refine below_set ?_ GE102.out | refine below_set ?_ GE103.out | refine below_set ?_ GE104.out | refine below_set ?_ GE105.out | refine below_set ?_ GE106.out | refine below_set ?_ GE107.out | refine below_set ?_ GE108.out | refine below_set ?_ GE109.out | refine below_set ?_ GE110.out)))).mono ?_); (case side1 => exact Kd.C_below HR1.out qb); (case side2 => exact HC1.out); (case side3 => exact Kd.C_below HR2.out qb); (case side4 => exact HC2.out); (case side5 => exact Kd.C_below HR3.out qb); (case side6 => exact HC3.out); (case side7 => exact Kd.C_below HR101_6.out qb); (case side8 => exact HC101_6.out); rintro e w13 ⟨rfl, hb⟩; refine ⟨_, rfl, ?_⟩; have n0_ := Aside0.mk (blk_below (g := gb102) (o := .cells #[.int .i64 ((rd_T67 l0 x17_1).f0), .string ((rd_T67 l0 x17_1).f1), .string ((rd_T67 l0 x17_1).f2), .int .i64 ((rd_T67 l0 x17_1).f3.f0), .int .i64 ((rd_T67 l0 x17_1).f3.f1), .string ((rd_T67 l0 x17_1).f3.f2), .slice A101_6 ((rd_T67 l0 x17_1).f3.f3).length c101_6, .int .i64 ((rd_T67 l0 x17_1).f4)] 67 (0, 0)) qy102 hb); have n1_ := qs hb; clear BK102; clear HB; have BK102 := n0_; have HB := n1_; clear n0_ n1_; (try clear hb)))
       go_roundg k1
       case measure => have := HK1.out; omega
       case rel => exact ⟨(wrap64 (x17_1 + 1)), qv, H', ⟨by have := HK1.out; omega⟩, qB⟩
      rw [if_neg c10] at H
      obtain ⟨c10b0, c10b1⟩ := qd c10
      obtain rfl := Option.some.inj H
      have p101 : 0 ≤ (x17_1 : Int) := qa
      have q101 : x17_1 < (l0.length : Int) := qa
      obtain ⟨ad101, A101_6, c101_6, e101, hx101_0, hx101_1, hx101_2, hx101_3, hx101_4, hx101_5, hx101_6, hx101_7, hl101_6, hi101_6⟩ := at_T67 HR0.out x17_1 p101 q101
      cases e101
      replace hx101_0 := qc HB.out hx101_0
      replace hx101_1 := qc HB.out hx101_1
      replace hx101_2 := qc HB.out hx101_2
      replace hx101_3 := qc HB.out hx101_3
      replace hx101_4 := qc HB.out hx101_4
      replace hx101_5 := qc HB.out hx101_5
      replace hx101_6 := qc HB.out hx101_6
      replace hx101_7 := qc HB.out hx101_7
      have HR101_6 := Aside0.mk hi101_6
      have HC101_6 := Aside0.mk hl101_6
      clear hi101_6 hl101_6
      replace p101 := eq_true p101
      replace q101 := eq_true q101
      go_wp2_with (first | ((with_reducible refine gate_dst (N := 10) rfl ?_); refine box_event ?hg (N := 10) ?hd (cs := #[.int .i64 0, .string (⟨#[]⟩ : ByteArray), .string (⟨#[]⟩ : ByteArray), .int .i64 0, .int .i64 0, .string (⟨#[]⟩ : ByteArray), .slice none 0 0, .int .i64 0]) (t := 67) ?hr ?_; (case hd => rfl); (case hg => rfl); (case hr => first | (go_simp; done) | (go_simp; rfl)); intro gb102 hg w14 hbox hb; have n0_ := qs hb; have n1_ := Aside0.mk (hbox); have n2_ := Aside0.mk ((by rw [hg]; exact (below_size qb) : w.heap.size ≤ gb102)); have n3_ := Aside0.mk ((by rw [hg]; exact (below_size qb) : w.heap.size ≤ gb102)); clear HB; have HB := n0_; have BK102 := n1_; have GW102 := n2_; have GE102 := n3_; clear n0_ n1_ n2_ n3_; clear hb hbox hg; obtain ⟨_, _, _, _, _, _, _, _, _, _, _, _, _, _, _, _⟩ := q8 BK102.out) | ((with_reducible refine gate_callee (f := 73) rfl ?_); refine goesL_ (some 28) rfl rfl Tryd.func73 (by kernel_rfl) rfl #[.agg #[.slice A1 l1.length c1, .slice A2 l2.length c2, .slice A3 l3.length c3], .agg #[.int .i64 ((rd_T67 l0 x17_1).f0), .string ((rd_T67 l0 x17_1).f1), .string ((rd_T67 l0 x17_1).f2), .int .i64 ((rd_T67 l0 x17_1).f3.f0), .int .i64 ((rd_T67 l0 x17_1).f3.f1), .string ((rd_T67 l0 x17_1).f3.f2), .slice A101_6 ((rd_T67 l0 x17_1).f3.f3).length c101_6, .int .i64 ((rd_T67 l0 x17_1).f4)], .int .i64 (l0.length : Int)] rfl qm ?_; (with_reducible refine (prog_names_step.calls k1 _ _ l1 _ _ l2 _ _ l3 ((rd_T67 l0 x17_1).f0) ((rd_T67 l0 x17_1).f1) ((rd_T67 l0 x17_1).f2) ((rd_T67 l0 x17_1).f3.f0) ((rd_T67 l0 x17_1).f3.f1) ((rd_T67 l0 x17_1).f3.f2) _ _ ((rd_T67 l0 x17_1).f3.f3) ((rd_T67 l0 x17_1).f4) (l0.length : Int) t103 _ ?side1 ?side2 ?side3 ?side4 ?side5 ?side6 ?side7 ?side8 A9.out (by first | exact HT0.out | exact UT.below HT0.out (by repeat (first | exact HB.out | exact Below.refl _ _ | apply below_alloc | apply pw_below_drewN | apply below_drew1 | refine below_set ?_ GE101.out | refine below_set ?_ GE102.out | refine below_set ?_ GE103.out | refine below_set ?_ GE104.out | refine below_set ?_ GE105.out | refine below_set ?_ GE106.out | refine below_set ?_ GE107.out | refine below_set ?_ GE108.out | refine below_set ?_ GE109.out | refine below_set ?_ GE110.out)))).mono ?_); (case side1 => exact Kd.C_below HR1.out qb); (case side2 => exact HC1.out); (case side3 => exact Kd.C_below HR2.out qb); (case side4 => exact HC2.out); (case side5 => exact Kd.C_below HR3.out qb); (case side6 => exact HC3.out); (case side7 => exact Kd.C_below HR101_6.out qb); (case side8 => exact HC101_6.out); rintro e w16 ⟨rfl, hb⟩; refine ⟨_, rfl, ?_⟩; have n0_ := Aside0.mk (blk_below (g := gb102) (o := .cells #[.int .i64 ((rd_T67 l0 x17_1).f0), .string ((rd_T67 l0 x17_1).f1), .string ((rd_T67 l0 x17_1).f2), .int .i64 ((rd_T67 l0 x17_1).f3.f0), .int .i64 ((rd_T67 l0 x17_1).f3.f1), .string ((rd_T67 l0 x17_1).f3.f2), .slice A101_6 ((rd_T67 l0 x17_1).f3.f3).length c101_6, .int .i64 ((rd_T67 l0 x17_1).f4)] 67 (0, 0)) qy102 hb); have n1_ := qs hb; clear BK102; clear HB; have BK102 := n0_; have HB := n1_; clear n0_ n1_; (try clear hb)))
      go_ret
      exact qr
     rw [if_neg c8] at H
     exact absurd H (by simp)
    rw [if_neg c7] at H
    exact absurd H (by simp)
   rw [if_neg c6] at H
   have c6b0 : decide (x17_1 < (l0.length : Int)) = false := decide_eq_false c6
   clear c6
   obtain rfl := Option.some.inj H
   go_wp2
   go_ret
   exact qr
end Go.Proofs.YtiaccdaeomaogaaDoor.F
