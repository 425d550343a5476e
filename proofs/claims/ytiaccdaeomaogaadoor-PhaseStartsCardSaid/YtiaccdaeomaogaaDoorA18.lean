/- Texts of one claim, slimmed and merged by slim.py. -/
import Derived.Lib.LazyBuf
import Derived.Shelf.Spec.SlicesGrow
import Derived.Test.YtiaccdaeomaogaaDoorA4
import Derived.Test.YtiaccdaeomaogaaDoorA6
import Derived.Test.YtiaccdaeomaogaaDoorA12
import Derived.Test.YtiaccdaeomaogaaDoorA15
import Derived.Test.YtiaccdaeomaogaaDoorA16
import Derived.Test.YtiaccdaeomaogaaDoorA17
namespace Go.Proofs.YtiaccdaeomaogaaDoor.F
open Go.RowKit Go.Proofs.YtiaccdaeomaogaaDoorW.PrintWords Go.Proofs.YtiaccdaeomaogaaDoorW.PrintLast Go.Proofs.YtiaccdaeomaogaaDoorW.PrintMore
attribute [local go_sem] max2_int min2_int max_two min_two max_three min_three max_four min_four   -- for this text's walks alone
set_option linter.unusedVariables false
set_option linter.unusedSimpArgs false
def prog_Check.l0 : Nat → List (S67) → List ByteArray → List ByteArray → List ByteArray → List (S67) → Int → Int → Option (Int)
  | 0, _, _, _, _, _, _, _ => none
  | k + 1, x0, x1, x2, x3, x15, x16, x17 => if x17 < x16 then (if 0 ≤ x17 then (if x17 < (x15.length : Int) then ((prog_names_step.f k x1 x2 x3 ((rd_T67 x15 x17).f0) ((rd_T67 x15 x17).f1) ((rd_T67 x15 x17).f2) ((rd_T67 x15 x17).f3.f0) ((rd_T67 x15 x17).f3.f1) ((rd_T67 x15 x17).f3.f2) ((rd_T67 x15 x17).f3.f3) ((rd_T67 x15 x17).f4) (x0.length : Int)).bind fun t103 => (if t103 = 0 then (prog_Check.l0 k x0 x1 x2 x3 x15 x16 (wrap64 (x17 + 1))) else (some t103))) else (none)) else (none)) else (some 0)
def prog_Check.f (k : Nat) (l0 : List (S67)) (l1 : List ByteArray) (l2 : List ByteArray) (l3 : List ByteArray) : Option (Int) := if (l0.length : Int) > 16 then (some 2) else (prog_Check.l0 k l0 l1 l2 l3 l0 (l0.length : Int) 0)
theorem prog_Check.mono_l : ∀ k, (∀ y0 y1 y2 y3 y4 y5 y6, LeO (prog_Check.l0 k y0 y1 y2 y3 y4 y5 y6) (prog_Check.l0 (k + 1) y0 y1 y2 y3 y4 y5 y6))
  | 0 => fun _ _ _ _ _ _ _ r h => by simp [prog_Check.l0] at h
  | k + 1 => by
    have ih0 := prog_Check.mono_l k
    intro y0 y1 y2 y3 y4 y5 y6
    unfold prog_Check.l0
    repeat' first
    | (with_reducible exact ih0 _ _ _ _ _ _ _)
    | (with_reducible exact prog_names_step.mono _ _ _ _ _ _ _ _ _ _ _ _ _)
    | (with_reducible exact LeO.refl _)
    | (with_reducible exact LeO.none _)
    | (with_reducible refine LeO.ite ?_ ?_)
    | (with_reducible refine LeO.bind ?_ (fun _ => ?_))
    | exact ih0 _ _ _ _ _ _ _
    | exact prog_names_step.mono _ _ _ _ _ _ _ _ _ _ _ _ _
    | exact LeO.none _
    | refine LeO.ite ?_ ?_
    | refine LeO.bind ?_ (fun _ => ?_)
theorem prog_Check.mono : ∀ a0 a1 a2 a3 k, LeO (prog_Check.f k a0 a1 a2 a3) (prog_Check.f (k + 1) a0 a1 a2 a3) := by
  intro a0 a1 a2 a3 k
  have ih0 := prog_Check.mono_l k
  unfold prog_Check.f
  repeat' first
      | (with_reducible exact ih0 _ _ _ _ _ _ _)
      | (with_reducible exact prog_names_step.mono _ _ _ _ _ _ _ _ _ _ _ _ _)
      | (with_reducible exact LeO.refl _)
      | (with_reducible exact LeO.none _)
      | (with_reducible refine LeO.ite ?_ ?_)
      | (with_reducible refine LeO.bind ?_ (fun _ => ?_))
      | exact ih0 _ _ _ _ _ _ _
      | exact prog_names_step.mono _ _ _ _ _ _ _ _ _ _ _ _ _
      | exact LeO.none _
      | refine LeO.ite ?_ ?_
      | refine LeO.bind ?_ (fun _ => ?_)
set_option maxHeartbeats 8000000 in
set_option maxRecDepth 100000 in
theorem prog_Check.calls (k : Nat) (A0 : Option Addr) (c0 : Nat) (l0 : List (S67)) (A1 : Option Addr) (c1 : Nat) (l1 : List ByteArray) (A2 : Option Addr) (c2 : Nat) (l2 : List ByteArray) (A3 : Option Addr) (c3 : Nat) (l3 : List ByteArray) (r : Int) (w : World) (hr0 : Kd.C k67 w A0 l0.length l0) (hc0 : l0.length ≤ c0) (hr1 : Kd.C Kd.string w A1 l1.length l1) (hc1 : l1.length ≤ c1) (hr2 : Kd.C Kd.string w A2 l2.length l2) (hc2 : l2.length ≤ c2) (hr3 : Kd.C Kd.string w A3 l3.length l3) (hc3 : l3.length ≤ c3) (h : prog_Check.f k l0 l1 l2 l3 = some r) (hT : UT w) :
  Calls Tryd.prog 44 #[.slice A0 l0.length c0, .slice A1 l1.length c1, .slice A2 l2.length c2, .slice A3 l3.length c3] w fun e w' => e = .returned (.int .i64 r) ∧ Below w.heap.size w w' := by
 have HT0 := Aside0.mk hT
 clear hT
 have hu67 := Tryd.underlying67
 have hu121 := Tryd.underlying121
 have HR0 := Aside0.mk hr0
 have HC0 := Aside0.mk hc0
 clear hr0 hc0
 have HR1 := Aside0.mk hr1
 have HC1 := Aside0.mk hc1
 clear hr1 hc1
 have HR2 := Aside0.mk hr2
 have HC2 := Aside0.mk hc2
 clear hr2 hc2
 have HR3 := Aside0.mk hr3
 have HC3 := Aside0.mk hc3
 clear hr3 hc3
 have HB := Aside0.mk (Below.refl w.heap.size w)
 have H : (if (l0.length : Int) > 16 then (some 2) else (prog_Check.l0 k l0 l1 l2 l3 l0 (l0.length : Int) 0)) = some r := h
 clear h
 by_cases c5 : (l0.length : Int) > 16
 ·rw [if_pos c5] at H
  have c5b0 : decide (16 < (l0.length : Int)) = true := decide_eq_true c5
  have c5b1 : decide (16 < l0.length) = true := decide_eq_true (by omega)
  clear c5
  obtain rfl := Option.some.inj H
  go_enter Tryd.func44, Tryd.ntmps44
  go_wp2
  go_ret
  exact qr
 rw [if_neg c5] at H
 have c5b0 : decide (16 < (l0.length : Int)) = false := decide_eq_false c5
 have c5b1 : decide (16 < l0.length) = false := decide_eq_false (by omega)
 clear c5
 have H' := Aside0.mk H
 clear H
 go_enter Tryd.func44, Tryd.ntmps44
 go_wp2
 go_loopg [17] k (fun kq v17 w' => ∃ (x17_1 : Int), v17 = .int .i64 x17_1 ∧ Aside0 (prog_Check.l0 kq l0 l1 l2 l3 l0 (l0.length : Int) x17_1 = some r) ∧ Aside0 (kq ≤ k) ∧ Aside0 (Below w.heap.size w w'))
 case atStart => exact ⟨(0), qv, H', ⟨Nat.le_refl _⟩, qB⟩
 case round =>
  clear H'
  obtain ⟨x17_1, rfl, HA, HK1, HB⟩ := hrel
  cases gk with
  | zero => exact absurd HA.out (by simp [prog_Check.l0])
  | succ k1 =>
   have H := HA.out
   clear HA
   simp only [prog_Check.l0] at H
   by_cases c6 : x17_1 < (l0.length : Int)
   ·rw [if_pos c6] at H
    have c6b0 : decide (x17_1 < (l0.length : Int)) = true := decide_eq_true c6
    clear c6
    by_cases c7 : 0 ≤ x17_1
    ·rw [if_pos c7] at H
     have c7b0 : decide (0 ≤ x17_1) = true := decide_eq_true c7
     clear c7
     by_cases c8 : x17_1 < (l0.length : Int)
     ·rw [if_pos c8] at H
      have c8b0 : decide (x17_1 < (l0.length : Int)) = true := decide_eq_true c8
      clear c8
      replace H := qi H
      obtain ⟨t103, A9, H⟩ := H
      by_cases c10 : t103 = 0
      ·rw [if_pos c10] at H
       obtain ⟨c10b0, c10b1⟩ := qe c10
       clear c10
       have H' := Aside0.mk H
       clear H
       have p101 : 0 ≤ (x17_1 : Int) := qa
       have q101 : x17_1 < (l0.length : Int) := qa
       obtain ⟨ad101, A101_6, c101_6, e101, hx101_0, hx101_1, hx101_2, hx101_3, hx101_4, hx101_5, hx101_6, hx101_7, hl101_6, hi101_6⟩ := at_T67 HR0.out x17_1 p101 q101
       cases e101
       replace hx101_0 := qc HB.out hx101_0
       replace hx101_1 := qc HB.out hx101_1
       replace hx101_2 := qc HB.out hx101_2
       replace hx101_3 := qc HB.out hx101_3
       replace hx101_4 := qc HB.out hx101_4
       replace hx101_5 := qc HB.out hx101_5
       replace hx101_6 := qc HB.out hx101_6
       replace hx101_7 := qc HB.out hx101_7
       have HR101_6 := Aside0.mk hi101_6
       have HC101_6 := Aside0.mk hl101_6
       clear hi101_6 hl101_6
       replace p101 := eq_true p101
       replace q101 := eq_true q101
       go_wp2_with (first | ((with_reducible refine gate_dst (N := 10) rfl ?_); refine box_event ?hg (N := 10) ?hd (cs := #[.int .i64 0, .string (⟨#[]⟩ : ByteArray), .string (⟨#[]⟩ : ByteArray), .int .i64 0, .int .i64 0, .string (⟨#[]⟩ : ByteArray), .slice none 0 0, .int .i64 0]) (t := 67) ?hr ?_; (case hd => rfl); (case hg => rfl); (case hr => first | (go_simp; done) | (go_simp; rfl)); intro gb102 hg w11 hbox hb; have n0_ := qs hb; have n1_ := Aside0.mk (hbox); have n2_ := Aside0.mk ((by rw [hg]; exact (below_size qb) : w.heap.size ≤ gb102)); have n3_ := Aside0.mk ((by rw [hg]; exact (below_size qb) : w.heap.size ≤ gb102)); clear HB; have HB := n0_; have BK102 := n1_; have GW102 := n2_; have GE102 := n3_; clear n0_ n1_ n2_ n3_; clear hb hbox hg; obtain ⟨_, _, _, _, _, _, _, _, _, _, _, _, _, _, _, _⟩ := q8 BK102.out) | ((with_reducible refine gate_callee (f := 73) rfl ?_); refine goesL_ (some 28) rfl rfl Tryd.func73 (by kernel_rfl) rfl #[.agg #[.slice A1 l1.length c1, .slice A2 l2.length c2, .slice A3 l3.length c3], .agg #[.int .i64 ((rd_T67 l0 x17_1).f0), .string ((rd_T67 l0 x17_1).f1), .string ((rd_T67 l0 x17_1).f2), .int .i64 ((rd_T67 l0 x17_1).f3.f0), .int .i64 ((rd_T67 l0 x17_1).f3.f1), .string ((rd_T67 l0 x17_1).f3.f2), .slice A101_6 ((rd_T67 l0 x17_1).f3.f3).length c101_6, .int .i64 ((rd_T67 l0 x17_1).f4)], .int .i64 (l0.length : Int)] rfl qm ?_; (with_reducible refine (prog_names_step.calls k1 _ _ l1 _ _ l2 _ _ l3 ((rd_T67 l0 x17_1).f0) ((rd_T67 l0 x17_1).f1) ((rd_T67 l0 x17_1).f2) ((rd_T67 l0 x17_1).f3.f0) ((rd_T67 l0 x17_1).f3.f1) ((rd_T67 l0 x17_1).f3.f2) _ _ ((rd_T67 l0 x17_1).f3.f3) ((rd_T67 l0 x17_1).f4) (l0.length : Int) t103 _ ?side1 ?side2 ?side3 ?side4 ?side5 ?side6 ?side7 ?side8 A9.out (by first | exact HT0.out | exact UT.below HT0.out (by repeat (first | exact HB.out | exact Below.refl _ _ | apply below_alloc | apply pw_below_drewN | apply below_drew1 | refine below_set ?_ GE101.out | refine below_set ?_ GE102.out | refine below_set ?_ GE103.out | refine below_set ?_ GE104.out | refine below_set ?_ GE105.out | refine below_set ?_ GE106.out | refine below_set ?_ GE107.out | refine below_set ?_ GE108.out | refine below_set ?_ GE109.out | refine below_set ?_ GE110.out)))).mono ?_); (case side1 => exact Kd.C_below HR1.out qb); (case side2 => exact HC1.out); (case side3 => exact Kd.C_below HR2.out qb); (case side4 => exact HC2.out); (case side5 => exact Kd.C_below HR3.out qb); (case side6 => exact HC3.out); (case side7 => exact Kd.C_below HR101_6.out qb); (case side8 => exact HC101_6.out); rintro e w13 ⟨rfl, hb⟩; refine ⟨_, rfl, ?_⟩; have n0_ := Aside0.mk (blk_below (g := gb102) (o := .cells #[.int .i64 ((rd_T67 l0 x17_1).f0), .string ((rd_T67 l0 x17_1).f1), .string ((rd_T67 l0 x17_1).f2), .int .i64 ((rd_T67 l0 x17_1).f3.f0), .int .i64 ((rd_T67 l0 x17_1).f3.f1), .string ((rd_T67 l0 x17_1).f3.f2), .slice A101_6 ((rd_T67 l0 x17_1).f3.f3).length c101_6, .int .i64 ((rd_T67 l0 x17_1).f4)] 67 (0, 0)) qy102 hb); have n1_ := qs hb; clear BK102; clear HB; have BK102 := n0_; have HB := n1_; clear n0_ n1_; (try clear hb)))
       go_roundg k1
       case measure => have := HK1.out; omega
       case rel => exact ⟨(wrap64 (x17_1 + 1)), qv, H', ⟨by have := HK1.out; omega⟩, qB⟩
      rw [if_neg c10] at H
      obtain ⟨c10b0, c10b1⟩ := qd c10
      obtain rfl := Option.some.inj H
      have p101 : 0 ≤ (x17_1 : Int) := qa
      have q101 : x17_1 < (l0.length : Int) := qa
      obtain ⟨ad101, A101_6, c101_6, e101, hx101_0, hx101_1, hx101_2, hx101_3, hx101_4, hx101_5, hx101_6, hx101_7, hl101_6, hi101_6⟩ := at_T67 HR0.out x17_1 p101 q101
      cases e101
      replace hx101_0 := qc HB.out hx101_0
      replace hx101_1 := qc HB.out hx101_1
      replace hx101_2 := qc HB.out hx101_2
      replace hx101_3 := qc HB.out hx101_3
      replace hx101_4 := qc HB.out hx101_4
      replace hx101_5 := qc HB.out hx101_5
      replace hx101_6 := qc HB.out hx101_6
      replace hx101_7 := qc HB.out hx101_7
      have HR101_6 := Aside0.mk hi101_6
      have HC101_6 := Aside0.mk hl101_6
      clear hi101_6 hl101_6
      replace p101 := eq_true p101
      replace q101 := eq_true q101
      go_wp2_with (first | ((with_reducible refine gate_dst (N := 10) rfl ?_); refine box_event ?hg (N := 10) ?hd (cs := #[.int .i64 0, .string (⟨#[]⟩ : ByteArray), .string (⟨#[]⟩ : ByteArray), .int .i64 0, .int .i64 0, .string (⟨#[]⟩ : ByteArray), .slice none 0 0, .int .i64 0]) (t := 67) ?hr ?_; (case hd => rfl); (case hg => rfl); (case hr => first | (go_simp; done) | (go_simp; rfl)); intro gb102 hg w14 hbox hb; have n0_ := qs hb; have n1_ := Aside0.mk (hbox); have n2_ := Aside0.mk ((by rw [hg]; exact (below_size qb) : w.heap.size ≤ gb102)); have n3_ := Aside0.mk ((by rw [hg]; exact (below_size qb) : w.heap.size ≤ gb102)); clear HB; have HB := n0_; have BK102 := n1_; have GW102 := n2_; have GE102 := n3_; clear n0_ n1_ n2_ n3_; clear hb hbox hg; obtain ⟨_, _, _, _, _, _, _, _, _, _, _, _, _, _, _, _⟩ := q8 BK102.out) | ((with_reducible refine gate_callee (f := 73) rfl ?_); refine goesL_ (some 28) rfl rfl Tryd.func73 (by kernel_rfl) rfl #[.agg #[.slice A1 l1.length c1, .slice A2 l2.length c2, .slice A3 l3.length c3], .agg #[.int .i64 ((rd_T67 l0 x17_1).f0), .string ((rd_T67 l0 x17_1).f1), .string ((rd_T67 l0 x17_1).f2), .int .i64 ((rd_T67 l0 x17_1).f3.f0), .int .i64 ((rd_T67 l0 x17_1).f3.f1), .string ((rd_T67 l0 x17_1).f3.f2), .slice A101_6 ((rd_T67 l0 x17_1).f3.f3).length c101_6, .int .i64 ((rd_T67 l0 x17_1).f4)], .int .i64 (l0.length : Int)] rfl qm ?_; (with_reducible refine (prog_names_step.calls k1 _ _ l1 _ _ l2 _ _ l3 ((rd_T67 l0 x17_1).f0) ((rd_T67 l0 x17_1).f1) ((rd_T67 l0 x17_1).f2) ((rd_T67 l0 x17_1).f3.f0) ((rd_T67 l0 x17_1).f3.f1) ((rd_T67 l0 x17_1).f3.f2) _ _ ((rd_T67 l0 x17_1).f3.f3) ((rd_T67 l0 x17_1).f4) (l0.length : Int) t103 _ ?side1 ?side2 ?side3 ?side4 ?side5 ?side6 ?side7 ?side8 A9.out (by first | exact HT0.out | exact UT.below HT0.out (by repeat (first | exact HB.out | exact Below.refl _ _ | apply below_alloc | apply pw_below_drewN | apply below_drew1 | refine below_set ?_ GE101.out | refine below_set ?_ GE102.out | refine below_set ?_ GE103.out | refine below_set ?_ GE104.out | refine below_set ?_ GE105.out | refine below_set ?_ GE106.out | refine below_set ?_ GE107.out | refine below_set ?_ GE108.out | refine below_set ?_ GE109.out | refine below_set ?_ GE110.out)))).mono ?_); (case side1 => exact Kd.C_below HR1.out qb); (case side2 => exact HC1.out); (case side3 => exact Kd.C_below HR2.out qb); (case side4 => exact HC2.out); (case side5 => exact Kd.C_below HR3.out qb); (case side6 => exact HC3.out); (case side7 => exact Kd.C_below HR101_6.out qb); (case side8 => exact HC101_6.out); rintro e w16 ⟨rfl, hb⟩; refine ⟨_, rfl, ?_⟩; have n0_ := Aside0.mk (blk_below (g := gb102) (o := .cells #[.int .i64 ((rd_T67 l0 x17_1).f0), .string ((rd_T67 l0 x17_1).f1), .string ((rd_T67 l0 x17_1).f2), .int .i64 ((rd_T67 l0 x17_1).f3.f0), .int .i64 ((rd_T67 l0 x17_1).f3.f1), .string ((rd_T67 l0 x17_1).f3.f2), .slice A101_6 ((rd_T67 l0 x17_1).f3.f3).length c101_6, .int .i64 ((rd_T67 l0 x17_1).f4)] 67 (0, 0)) qy102 hb); have n1_ := qs hb; clear BK102; clear HB; have BK102 := n0_; have HB := n1_; clear n0_ n1_; (try clear hb)))
      go_ret
      exact qr
     rw [if_neg c8] at H
     exact absurd H (by simp)
    rw [if_neg c7] at H
    exact absurd H (by simp)
   rw [if_neg c6] at H
   have c6b0 : decide (x17_1 < (l0.length : Int)) = false := decide_eq_false c6
   clear c6
   obtain rfl := Option.some.inj H
   go_wp2
   go_ret
   exact qr
end Go.Proofs.YtiaccdaeomaogaaDoor.F
namespace Go.Proofs.YtiaccdaeomaogaaDoor.F
open Go.RowKit Go.Proofs.YtiaccdaeomaogaaDoorW.PrintWords Go.Proofs.YtiaccdaeomaogaaDoorW.PrintLast Go.Proofs.YtiaccdaeomaogaaDoorW.PrintMore
set_option linter.unusedVariables false
set_option linter.unusedSimpArgs false
theorem upTo {α : Type} {f : Nat → Option α} (hm : ∀ k, LeO (f k) (f (k + 1))) {k : Nat} {v : α} (h : f k = some v) : Tot f v := by
  refine ⟨k, fun j hj => ?_⟩
  obtain ⟨n, rfl⟩ : ∃ n, j = k + n := ⟨j - k, by omega⟩
  clear hj
  induction n with
  | zero => exact h
  | succ n ih => exact hm _ _ ih
end Go.Proofs.YtiaccdaeomaogaaDoor.F
namespace Go.Proofs.YtiaccdaeomaogaaDoor.F
open Go.RowKit Go.Proofs.YtiaccdaeomaogaaDoorW.PrintWords Go.Proofs.YtiaccdaeomaogaaDoorW.PrintLast Go.Proofs.YtiaccdaeomaogaaDoorW.PrintMore
attribute [local go_sem] max2_int min2_int max_two min_two max_three min_three max_four min_four   -- for this text's walks alone
set_option linter.unusedVariables false
set_option linter.unusedSimpArgs false
theorem info69c : (Tryd.prog.info? 69).map (fun i => (i.zero, i.size, i.bytes)) = some (some (.agg #[.string ⟨#[]⟩, .int .i64 0]), 2, 24) := by kernel_rfl
theorem k69_KM {w W : World} {base : Nat} {ok : Nat → Prop} (x : S69) (cs : List Value) (h : k69.K w x cs) : k69.M W base ok x cs := by
  rw [k69_open h]; exact k69_mkM W base ok x
theorem R69_empty (w : World) (base : Nat) (ok : Nat → Prop) (hb : base ≤ w.heap.size) (hok : ok w.heap.size) : Kd.R k69 69 (w.alloc (.cells #[] 69)) base ok (.slice (some ⟨w.heap.size, 0, none⟩) 0 0) [] := by
 refine ⟨fun k hk => ?_, [], ?_, Reps.none _ _⟩
 ·have : w.heap.size = k := by simpa [Value.ownBlock] using hk
  subst this; exact hok
 have h2 := World.ownsRow_lit (base := base) (e := 69) (size := 2) w #[] 0 hb (by decide) (by simp)
 have h3 : (w.alloc (.cells #[] 69)).ownsRow base 69 2 (.slice (some ⟨w.heap.size, 0, none⟩) 0 0) 0 [] := by simpa using h2
 exact h3
def api_Cell_86.f (l0 : List (S69)) : Option (List (S69)) := if l0.length < 1000000000 then some l0 else none
set_option maxHeartbeats 4000000 in
set_option maxRecDepth 100000 in
theorem api_Cell_86.calls (A0 : Option Addr) (c0 : Nat) (l0 : List (S69)) (r : List (S69)) (w : World) (hr0 : Kd.C k69 w A0 l0.length l0) (hc0 : l0.length ≤ c0) (h : api_Cell_86.f l0 = some r) :
    Calls Tryd.prog 86 #[.slice A0 l0.length c0] w fun e w' => ∃ v0_ : Value, e = .returned (v0_) ∧ Kd.R k69 69 w' w.heap.size (fun _ => True) v0_ r ∧ Below w.heap.size w w' := by
  unfold api_Cell_86.f at h
  by_cases hl : l0.length < 1000000000
  case neg => rw [if_neg hl] at h; cases h
  rw [if_pos hl] at h
  obtain rfl := Option.some.inj h
  have heq := fun (w' : World) => Go.run_eql_slice_nil (P := Tryd.prog) w' 35 69 A0 l0.length c0 Tryd.underlying35
  cases A0 with
  | none =>
    have h0 : l0 = [] := by
      rcases Nat.eq_zero_or_pos l0.length with h | h
      · exact List.eq_nil_of_length_eq_zero h
      obtain ⟨ad, e, _⟩ := hr0.2.2 h; cases e
    subst h0
    simp only [List.length_nil] at heq
    clear hr0 hl hc0 h
    go_enter Tryd.func86, Tryd.ntmps86
    go_wp2
    go_ret
    exact ⟨_, rfl, Kd.R_nil _ _ _ _ _, by repeat (first | exact Below.refl _ _ | apply pw_below_drewN | apply below_drew1)⟩
  | some ad =>
    have HR := Aside0.mk hr0
    have HL := Aside0.mk hl
    clear hr0 hl hc0 h
    go_enter Tryd.func86, Tryd.ntmps86
    go_wp2_with (first | ((with_reducible refine gate_builtin (b := .append) (xs := #[.tmp 5, .tmp 6]) rfl ?_); at_builtin; refine Kd.R_append_rows k69 (w0 := w) w.heap.size rfl (.tmp 5) (.tmp 6) 35 69 (.agg #[.string ⟨#[]⟩, .int .i64 0]) 24 rfl Tryd.underlying35 info69c rfl (by decide) (by decide) (.slice (some ⟨w.heap.size, 0, none⟩) 0 0) [] l0 (some ad) l0.length c0 (fun _ => True) (fun _ => False) rfl rfl (R69_empty w _ _ (Nat.le_refl _) trivial) (Kd.C_alloc HR.out _) (fun x cs hK => k69_KM x cs hK) (fun _ h => h.elim) (fun _ _ => trivial) (below_alloc (Below.refl _ w) _) (below_size (below_alloc (Below.refl _ w) _)) (by have := HL.out; simp; omega) ?_; intro v1 w1 ho hb hg hat; have ho2 : Kd.R k69 69 w1 w.heap.size (fun _ => True) v1 l0 := (by have h9 := ho; rw [List.nil_append] at h9; exact h9); have HO1 := Aside0.mk ho2; have HB1 := Aside0.mk hb; clear ho ho2 hb hg hat))
    go_ret
    exact ⟨_, rfl, HO1.out, HB1.out⟩
def growC_ren : Go.Shelf.Ren := ⟨fun | 4 => 117 | n => n, fun | 22 => 35 | 25 => 69 | 0 => 0 | 3 => 3 | 4 => 4 | 9 => 9 | 20 => 20 | n => n, fun | n => n⟩
theorem growC : Go.Proofs.Lays8.n4 Tryd.prog growC_ren := {
  mixed := by kernel_rfl
  f4 := ⟨Tryd.f117.name, by decide, Tryd.func117.trans (congrArg some (by kernel_rfl))⟩
  t0 := Tryd.underlying0
  a0 := Tryd.isAgg0
  z0 := Tryd.sizeOf0
  v0 := Tryd.zeroValue0
  t3 := Tryd.underlying3
  a3 := Tryd.isAgg3
  z3 := Tryd.sizeOf3
  v3 := Tryd.zeroValue3
  t4 := Tryd.underlying4
  a4 := Tryd.isAgg4
  z4 := Tryd.sizeOf4
  v4 := Tryd.zeroValue4
  t9 := Tryd.underlying9
  a9 := Tryd.isAgg9
  z9 := Tryd.sizeOf9
  v9 := Tryd.zeroValue9
  t20 := Tryd.underlying20
  a20 := Tryd.isAgg20
  z20 := Tryd.sizeOf20
  v20 := Tryd.zeroValue20
  t22 := Tryd.underlying35
  a22 := Tryd.isAgg35
  z22 := Tryd.sizeOf35
  v22 := Tryd.zeroValue35 }
theorem R69_made (w : World) (base cap : Nat) (cur : Array Value) (hb : base ≤ w.heap.size) (hm : cap ≤ maxLen) (hs : cur.size = cap * 2) : Kd.R k69 69 (w.alloc (.cells cur 69)) base (fun _ => True) (.slice (some ⟨w.heap.size, 0, none⟩) 0 cap) [] :=
  ⟨fun _ _ => trivial, [], World.ownsRow_made w cur cap hb hm hs, Reps.none _ _⟩
theorem growC_calls (n : Nat) (hn : n ≤ 2000000000) (w : World) : Calls Tryd.prog 117 #[.slice none 0 0, .int .i64 n] w fun e w' => ∃ v0_ : Value, e = .returned v0_ ∧ Kd.R k69 69 w' w.heap.size (fun _ => True) v0_ [] ∧ Below w.heap.size w w' := by
 rcases Nat.eq_zero_or_pos n with h0 | h0
 ·subst h0
  refine (Go.Proofs.Any8.slices_Grow_room growC none 0 0 0 w (Nat.le_refl _) (by omega) (by omega) (Nat.le_refl _)).mono ?_
  rintro e w1 ⟨rfl, rfl⟩
  exact ⟨_, rfl, Kd.R_nil _ _ _ _ _, Below.refl _ _⟩
 obtain ⟨i0, hi0⟩ : ∃ i0, Tryd.prog.info? 69 = some i0 := by
  cases h : Tryd.prog.info? 69 with
  | none => have := info69c; rw [h] at this; cases this
  | some i => exact ⟨i, rfl⟩
 have hi := info69c
 rw [hi0] at hi
 have hi := Option.some.inj hi
 have hz0 : i0.zero = some (.agg #[.string ⟨#[]⟩, .int .i64 0]) := congrArg (fun p => p.1) hi
 have hs0 : i0.size = 2 := congrArg (fun p => p.2.1) hi
 have hb0 : i0.bytes = 24 := congrArg (fun p => p.2.2) hi
 refine (Go.Proofs.Any8.slices_Grow_grow growC i0 _ hi0 hz0 (by rw [hs0]; decide) none 0 0 n [] w (Nat.le_refl _) (by omega) (by rw [hb0]; omega) (by omega) (by simp) (fun _ => rfl) (fun a ha => by cases ha)).mono ?_
 rintro e w1 ⟨rfl, rfl⟩
 have hg := grownCap_ge w (0 + n) 0 (growC_ren.t 25)
 have hm := grownCap_le_maxLen w (0 + n) 0 (growC_ren.t 25) (by unfold maxLen; omega)
 refine ⟨_, rfl, R69_made w.drew w.heap.size _ _ (Nat.le_refl _) hm ?_, (Below.refl _ w).drew.alloc (Nat.le_refl _) _⟩
 have hc : (Value.agg #[.string ⟨#[]⟩, .int .i64 0]).cells.size = 2 := by rfl
 simp only [Array.size_append, size_zeroCells, hc]
 simp only [List.size_toArray, List.length_nil]
 omega
def partCells : Array Value := #[.int .i64 1, .func (.func 142) #[] #[], .int .i64 4, .func (.func 143) #[] #[], .int .i64 6, .func (.func 144) #[] #[], .int .i64 7, .func (.func 145) #[] #[], .int .i64 9, .func (.func 146) #[] #[]]
set_option maxHeartbeats 4000000 in
set_option maxRecDepth 100000 in
theorem parts_calls (w : World) :
    Calls Tryd.prog 110 #[] w fun e w' => ∃ g, e = .returned (.slice (some ⟨g, 0, none⟩) 5 5) ∧ w.heap.size ≤ g ∧ w'.heap[g]? = some (.cells partCells 156 (0, 0)) ∧ Below w.heap.size w w' := by
  have hup := Tryd.underlying156
  go_enter Tryd.func110, Tryd.ntmps110
  go_wp2_with (first | ((with_reducible refine gate_dst (N := 6) rfl ?_); refine event_run (v := .slice (some ⟨w.heap.size, 0, none⟩) 5 5) (w1 := w.alloc (.cells partCells 156)) rfl ?hr ?_; (case hr => first | (go_simp; done) | (go_simp; rfl) | (unfold partCells; go_simp; done) | (unfold partCells; go_simp; rfl))))
  go_ret
  exact ⟨_, rfl, Nat.le_refl _, blk_new w _, below_alloc (Below.refl _ w) _⟩
set_option maxHeartbeats 4000000 in
set_option maxRecDepth 100000 in
theorem concatC_calls (b : Nat) (A0 A1 : Option Addr) (c0 c1 : Nat) (l0 l1 : List S69) (w : World) (hb : w.heap[b]? = some (.cells #[.slice A0 l0.length c0, .slice A1 l1.length c1] 35 (0, 0))) (hr0 : Kd.C k69 w A0 l0.length l0) (hr1 : Kd.C k69 w A1 l1.length l1) (hl0 : l0.length < 1000000000) (hl1 : l1.length < 1000000000) :
    Calls Tryd.prog 88 #[.slice (some ⟨b, 0, none⟩) 2 2] w fun e w' => ∃ v0_ : Value, e = .returned v0_ ∧ Kd.R k69 69 w' w.heap.size (fun _ => True) v0_ (l0 ++ l1) ∧ Below w.heap.size w w' := by
  have HR0 := Aside0.mk hr0
  have HR1 := Aside0.mk hr1
  have HL0 := Aside0.mk hl0
  have HL1 := Aside0.mk hl1
  have HK0 := Aside0.mk hb
  clear hr0 hr1 hl0 hl1 hb
  go_enter Tryd.func88, Tryd.ntmps88
  go_wp2
  go_loopg [11, 3] 2 (fun kq v11 v3 w' => ∃ i s : Nat, v11 = .int .i64 (i : Int) ∧ v3 = .int .i64 (s : Int) ∧ Aside0 (i ≤ 2 ∧ kq + i = 2 ∧ (i = 0 → s = 0) ∧ (i = 1 → s = l0.length) ∧ (i = 2 → s = l0.length + l1.length)) ∧ Aside0 (Below w.heap.size w w'))
  case atStart => exact ⟨0, 0, rfl, rfl, ⟨by omega, by omega, fun _ => rfl, fun h => absurd h (by omega), fun h => absurd h (by omega)⟩, ⟨by repeat (first | exact Below.refl _ _ | apply pw_below_drewN | apply below_drew1)⟩⟩
  case round =>
    obtain ⟨i, s, rfl, rfl, HI, HB⟩ := hrel
    have c : i = 0 ∨ i = 1 ∨ i = 2 := by have := HI.out; omega
    rcases c with rfl | rfl | rfl
    · obtain rfl : s = 0 := HI.out.2.2.1 rfl
      have hk0 : wr.cell? ⟨b, 0, none⟩ = some (.slice A0 l0.length c0) := (blk_cell (blk_below HK0.out HB.out) 0).trans rfl
      have hn : ¬ ((l0.length : Int) < 0) := by omega
      have hw : wrap64 ((0 : Int) + (l0.length : Int)) = (l0.length : Int) := by have := HL0.out; unfold wrap64; omega
      have hw2 : wrap64 (l0.length : Int) = (l0.length : Int) := by have := HL0.out; unfold wrap64; omega
      have hz : ((0 : Nat) : Int) = 0 := rfl
      rw [hz]
      go_wp2
      go_roundg 1
      case measure => have := HI.out; omega
      case rel => exact ⟨1, l0.length, rfl, rfl, ⟨by omega, by omega, fun h => absurd h (by omega), fun _ => rfl, fun h => absurd h (by omega)⟩, ⟨by repeat (first | exact HB.out | apply pw_below_drewN | apply below_drew1)⟩⟩
    · obtain rfl : s = l0.length := HI.out.2.2.2.1 rfl
      have hk0 : wr.cell? ⟨b, 1, none⟩ = some (.slice A1 l1.length c1) := (blk_cell (blk_below HK0.out HB.out) 1).trans rfl
      have hn : ¬ (((l0.length + l1.length : Nat) : Int) < 0) := by omega
      have hw : wrap64 ((l0.length : Int) + (l1.length : Int)) = ((l0.length + l1.length : Nat) : Int) := by have := HL0.out; have := HL1.out; unfold wrap64; omega
      go_wp2
      go_roundg 0
      case measure => have := HI.out; omega
      case rel => exact ⟨2, l0.length + l1.length, rfl, rfl, ⟨by omega, by omega, fun h => absurd h (by omega), fun h => absurd h (by omega), fun _ => rfl⟩, ⟨by repeat (first | exact HB.out | apply pw_below_drewN | apply below_drew1)⟩⟩
    obtain rfl : s = l0.length + l1.length := HI.out.2.2.2.2 rfl
    clear HI
    go_wp2_with (first | (go_at_call 117; refine (growC_calls (l0.length + l1.length) (by have := HL0.out; have := HL1.out; omega) _).mono ?_; rintro e w5 ⟨vg, rfl, hrg, hbg⟩; have HB5 := Aside0.mk (below_step HB.out hbg); have HR5 := Aside0.mk (show Kd.R k69 69 w5 w.heap.size (fun _ => True) vg [] from Kd.R_lower hrg (below_size HB.out)); clear hrg hbg))
    go_loopg [27, 6] 2 (fun kq v27 v6 w' => ∃ (i : Nat) (acc : List S69), v27 = .int .i64 (i : Int) ∧ Aside0 (i ≤ 2 ∧ kq + i = 2) ∧ Aside0 ((i = 0 → acc = []) ∧ (i = 1 → acc = l0) ∧ (i = 2 → acc = l0 ++ l1)) ∧ Aside0 (Kd.R k69 69 w' w.heap.size (fun _ => True) v6 acc) ∧ Aside0 (Below w.heap.size w w'))
    case atStart => exact ⟨0, [], rfl, ⟨by omega, by omega⟩, ⟨fun _ => rfl, fun h => absurd h (by omega), fun h => absurd h (by omega)⟩, HR5, HB5⟩
    case round =>
      clear HR5 HB5 HB
      obtain ⟨i, acc, rfl, HI, HC, HR, HB⟩ := hrel
      have c : i = 0 ∨ i = 1 ∨ i = 2 := by have := HI.out; omega
      rcases c with rfl | rfl | rfl
      · have ea : acc = [] := HC.out.1 rfl
        rw [ea] at HR
        clear ea HC
        have hk0 : wr.cell? ⟨b, 0, none⟩ = some (.slice A0 l0.length c0) := (blk_cell (blk_below HK0.out HB.out) 0).trans rfl
        go_wp2_with (first | ((with_reducible refine gate_builtin (b := .append) (xs := #[.tmp 31, .tmp 32]) rfl ?_); at_builtin; refine Kd.R_append_rows k69 (w0 := w) w.heap.size rfl (.tmp 31) (.tmp 32) 35 69 (.agg #[.string ⟨#[]⟩, .int .i64 0]) 24 rfl Tryd.underlying35 info69c rfl (by decide) (by decide) _ [] l0 A0 l0.length c0 (fun _ => True) (fun _ => False) rfl rfl HR.out (Kd.C_below HR0.out HB.out) (fun x cs hK => k69_KM x cs hK) (fun _ h => h.elim) (fun _ _ => trivial) HB.out (below_size HB.out) (by have := HL0.out; have := HL1.out; first | omega | (simp; omega)) ?_; intro v1 w1 ho hbb hg hat; have HO1 := Aside0.mk ho; have HB1 := Aside0.mk hbb; clear ho hbb hg hat))
        go_roundg 1
        case measure => have := HI.out; omega
        case rel => exact ⟨1, [] ++ l0, rfl, ⟨by omega, by omega⟩, ⟨fun h => absurd h (by omega), fun _ => List.nil_append _, fun h => absurd h (by omega)⟩, HO1, HB1⟩
      · have ea : acc = l0 := HC.out.2.1 rfl
        rw [ea] at HR
        clear ea HC
        have hk0 : wr.cell? ⟨b, 1, none⟩ = some (.slice A1 l1.length c1) := (blk_cell (blk_below HK0.out HB.out) 1).trans rfl
        go_wp2_with (first | ((with_reducible refine gate_builtin (b := .append) (xs := #[.tmp 31, .tmp 32]) rfl ?_); at_builtin; refine Kd.R_append_rows k69 (w0 := w) w.heap.size rfl (.tmp 31) (.tmp 32) 35 69 (.agg #[.string ⟨#[]⟩, .int .i64 0]) 24 rfl Tryd.underlying35 info69c rfl (by decide) (by decide) _ l0 l1 A1 l1.length c1 (fun _ => True) (fun _ => False) rfl rfl HR.out (Kd.C_below HR1.out HB.out) (fun x cs hK => k69_KM x cs hK) (fun _ h => h.elim) (fun _ _ => trivial) HB.out (below_size HB.out) (by have := HL0.out; have := HL1.out; first | omega | (simp; omega)) ?_; intro v1 w1 ho hbb hg hat; have HO1 := Aside0.mk ho; have HB1 := Aside0.mk hbb; clear ho hbb hg hat))
        go_roundg 0
        case measure => have := HI.out; omega
        case rel => exact ⟨2, l0 ++ l1, rfl, ⟨by omega, by omega⟩, ⟨fun h => absurd h (by omega), fun h => absurd h (by omega), fun _ => rfl⟩, HO1, HB1⟩
      have ea : acc = l0 ++ l1 := HC.out.2.2 rfl
      rw [ea] at HR
      go_wp2
      go_ret
      exact ⟨_, rfl, HR.out, HB.out⟩
def chart_Done.f (a0 : Int) : Option (Int × Bool) := if a0 = 1 then (some (11, true)) else (if a0 = 6 then (some (1, true)) else (if a0 = 2 then (some (wrap64 (a0 + 1), true)) else (if a0 = 4 then (some (wrap64 (a0 + 1), true)) else (if a0 = 7 then (some (wrap64 (a0 + 1), true)) else (if a0 = 9 then (some (wrap64 (a0 + 1), true)) else (some (0, false)))))))
set_option maxHeartbeats 8000000 in
set_option maxRecDepth 100000 in
theorem chart_Done.calls (a0 : Int) (r1 : Int) (r2 : Bool) (w : World) (h : chart_Done.f a0 = some (r1, r2)) :
  Calls Tryd.prog 90 #[.int .i64 a0] w fun e w' => e = .returned (.tuple #[.int .i64 r1, .bool r2]) ∧ Drawn0 w w' := by
 have H : (if a0 = 1 then (some (11, true)) else (if a0 = 6 then (some (1, true)) else (if a0 = 2 then (some (wrap64 (a0 + 1), true)) else (if a0 = 4 then (some (wrap64 (a0 + 1), true)) else (if a0 = 7 then (some (wrap64 (a0 + 1), true)) else (if a0 = 9 then (some (wrap64 (a0 + 1), true)) else (some (0, false)))))))) = some (r1, r2) := h
 clear h
 by_cases c2 : a0 = 1
 ·rw [if_pos c2] at H
  obtain ⟨c2b0, c2b1⟩ := qe c2
  clear c2
  simp only [Option.some.injEq, Prod.mk.injEq] at H
  obtain ⟨rfl, rfl⟩ := H
  go_enter Tryd.func90, Tryd.ntmps90
  go_wp2
  go_ret2
  exact ⟨by first | rfl | (simp; done) | (simp [*]; done), by repeat (first | exact Drawn0.refl _ | apply Drawn0.step)⟩
 rw [if_neg c2] at H
 obtain ⟨c2b0, c2b1⟩ := qd c2
 by_cases c3 : a0 = 6
 ·rw [if_pos c3] at H
  obtain ⟨c3b0, c3b1⟩ := qe c3
  clear c3
  simp only [Option.some.injEq, Prod.mk.injEq] at H
  obtain ⟨rfl, rfl⟩ := H
  go_enter Tryd.func90, Tryd.ntmps90
  go_wp2
  go_ret2
  exact ⟨by first | rfl | (simp; done) | (simp [*]; done), by repeat (first | exact Drawn0.refl _ | apply Drawn0.step)⟩
 rw [if_neg c3] at H
 obtain ⟨c3b0, c3b1⟩ := qd c3
 by_cases c4 : a0 = 2
 ·rw [if_pos c4] at H
  obtain ⟨c4b0, c4b1⟩ := qe c4
  clear c4
  simp only [Option.some.injEq, Prod.mk.injEq] at H
  obtain ⟨rfl, rfl⟩ := H
  go_enter Tryd.func90, Tryd.ntmps90
  go_wp2
  go_ret2
  exact ⟨by first | rfl | (simp; done) | (simp [*]; done), by repeat (first | exact Drawn0.refl _ | apply Drawn0.step)⟩
 rw [if_neg c4] at H
 obtain ⟨c4b0, c4b1⟩ := qd c4
 by_cases c5 : a0 = 4
 ·rw [if_pos c5] at H
  obtain ⟨c5b0, c5b1⟩ := qe c5
  clear c5
  simp only [Option.some.injEq, Prod.mk.injEq] at H
  obtain ⟨rfl, rfl⟩ := H
  go_enter Tryd.func90, Tryd.ntmps90
  go_wp2
  go_ret2
  exact ⟨by first | rfl | (simp; done) | (simp [*]; done), by repeat (first | exact Drawn0.refl _ | apply Drawn0.step)⟩
 rw [if_neg c5] at H
 obtain ⟨c5b0, c5b1⟩ := qd c5
 by_cases c6 : a0 = 7
 ·rw [if_pos c6] at H
  obtain ⟨c6b0, c6b1⟩ := qe c6
  clear c6
  simp only [Option.some.injEq, Prod.mk.injEq] at H
  obtain ⟨rfl, rfl⟩ := H
  go_enter Tryd.func90, Tryd.ntmps90
  go_wp2
  go_ret2
  exact ⟨by first | rfl | (simp; done) | (simp [*]; done), by repeat (first | exact Drawn0.refl _ | apply Drawn0.step)⟩
 rw [if_neg c6] at H
 obtain ⟨c6b0, c6b1⟩ := qd c6
 by_cases c7 : a0 = 9
 ·rw [if_pos c7] at H
  obtain ⟨c7b0, c7b1⟩ := qe c7
  clear c7
  simp only [Option.some.injEq, Prod.mk.injEq] at H
  obtain ⟨rfl, rfl⟩ := H
  go_enter Tryd.func90, Tryd.ntmps90
  go_wp2
  go_ret2
  exact ⟨by first | rfl | (simp; done) | (simp [*]; done), by repeat (first | exact Drawn0.refl _ | apply Drawn0.step)⟩
 rw [if_neg c7] at H
 obtain ⟨c7b0, c7b1⟩ := qd c7
 simp only [Option.some.injEq, Prod.mk.injEq] at H
 obtain ⟨rfl, rfl⟩ := H
 go_enter Tryd.func90, Tryd.ntmps90
 go_wp2
 go_ret2
 exact ⟨by first | rfl | (simp; done) | (simp [*]; done), by repeat (first | exact Drawn0.refl _ | apply Drawn0.step)⟩
def chart_Acting.f (a0 : Int) : Option (Bool) := (chart_Done.f a0).bind fun bt101 => (some bt101.2)
set_option maxHeartbeats 8000000 in
set_option maxRecDepth 100000 in
theorem chart_Acting.calls (a0 : Int) (r : Bool) (w : World) (h : chart_Acting.f a0 = some r) :
    Calls Tryd.prog 87 #[.int .i64 a0] w fun e w' => e = .returned (.bool r) ∧ Drawn0 w w' := by
  have H : ((chart_Done.f a0).bind fun bt101 => (some bt101.2)) = some r := h
  clear h
  replace H := qi H
  obtain ⟨⟨t101, t102⟩, A2, H⟩ := H
  replace H : (some t102) = some r := H
  obtain rfl := Option.some.inj H
  go_enter Tryd.func87, Tryd.ntmps87
  go_wp2_with (first | ((with_reducible refine gate_callee (f := 90) rfl ?_); refine goesL_ (some 7) rfl rfl Tryd.func90 (by kernel_rfl) rfl #[.int .i64 a0] rfl qm ?_; (with_reducible refine (chart_Done.calls a0 t101 t102 _ A2.out).mono ?_); rintro e w' ⟨rfl, ⟨nd, rfl⟩⟩; refine ⟨_, rfl, ?_⟩))
  go_ret
  exact ⟨by first | rfl | (simp; done) | (simp [*]; done), by repeat (first | exact Drawn0.refl _ | apply Drawn0.step)⟩
end Go.Proofs.YtiaccdaeomaogaaDoor.F
