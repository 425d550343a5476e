/- Texts of one claim, slimmed and merged by slim.py. -/
import Derived.Test.YtiaccdaeomaogaaDoorU4
import Derived.Test.YtiaccdaeomaogaaDoorU23
import Derived.Test.YtiaccdaeomaogaaDoorU30
namespace Go.Proofs.YtiaccdaeomaogaaDoor.F
open Go.RowKit Go.Proofs.YtiaccdaeomaogaaDoorW.PrintWords Go.Proofs.YtiaccdaeomaogaaDoorW.PrintLast Go.Proofs.YtiaccdaeomaogaaDoorW.PrintMore
attribute [local go_sem] max2_int min2_int max_two min_two max_three min_three max_four min_four   -- for this text's walks alone
set_option linter.unusedVariables false
set_option linter.unusedSimpArgs false
def malthouseref11_named.j0 : Nat → Bool → Int → ByteArray → ByteArray → Int → Int → ByteArray → List (S34) → Int → Option (Int)
  | 0, _, _, _, _, _, _, _, _, _ => none
  | k + 1, x63, x102000, x102001, x102002, x102003, x102004, x102005, x102006, x102007 => if x63 = true then (some 4) else (if x102001.toList = x102002.toList then (some 1) else (some 0))
def malthouseref11_named.f (k : Nat) (a0_0 : Int) (a0_1 : ByteArray) (a0_2 : ByteArray) (a0_3 : Int) (a0_4 : Int) (a0_5 : ByteArray) (l0_6 : List (S34)) (a0_7 : Int) (a1 : Int) (l2 : List ByteArray) (l3 : List ByteArray) : Option (Int) := if a0_0 = 0 then ((malthouseref11_is.f k l2 a0_1).bind fun t102 => (if t102 = true then (some 0) else (some 4))) else (if a0_0 = 3 then ((malthouseref11_is.f k l3 a0_1).bind fun t103 => ((malthouseref01_Name.f k a0_2).bind fun t104 => (if t103 = true then (if t104 = true then (some 0) else (some 1)) else (some 4)))) else (if a0_0 = 4 then ((malthouseref11_is.f k l3 a0_1).bind fun t105 => (if t105 = true then (some 0) else (some 4))) else (if a0_0 = 5 then ((malthouseref11_is.f k l3 a0_1).bind fun t106 => ((malthouseref11_is.f k l3 a0_2).bind fun t107 => (if t106 = true then (malthouseref11_named.j0 k (!t107) a0_0 a0_1 a0_2 a0_3 a0_4 a0_5 l0_6 a0_7) else (malthouseref11_named.j0 k true a0_0 a0_1 a0_2 a0_3 a0_4 a0_5 l0_6 a0_7)))) else (if a0_0 = 7 then ((malthouseref01_Quote.f k a0_1).bind fun bt108 => (if bt108.2 = true then (some 0) else (some 1))) else (if a0_0 = 6 then (if a0_7 < 0 then (some 1) else (if a0_7 > a1 then (some 1) else (some 0))) else (some 0))))))
set_option maxHeartbeats 8000000 in
set_option maxRecDepth 100000 in
theorem malthouseref11_named.calls (k : Nat) (a0_0 : Int) (a0_1 : ByteArray) (a0_2 : ByteArray) (a0_3 : Int) (a0_4 : Int) (a0_5 : ByteArray) (A0_6 : Option Addr) (c0_6 : Nat) (l0_6 : List (S34)) (a0_7 : Int) (a1 : Int) (A2 : Option Addr) (c2 : Nat) (l2 : List ByteArray) (A3 : Option Addr) (c3 : Nat) (l3 : List ByteArray) (r : Int) (w : World) (hr0_6 : Kd.C k34 w A0_6 l0_6.length l0_6) (hc0_6 : l0_6.length ≤ c0_6) (hr2 : Kd.C Kd.string w A2 l2.length l2) (hc2 : l2.length ≤ c2) (hr3 : Kd.C Kd.string w A3 l3.length l3) (hc3 : l3.length ≤ c3) (h : malthouseref11_named.f k a0_0 a0_1 a0_2 a0_3 a0_4 a0_5 l0_6 a0_7 a1 l2 l3 = some r) :
  Calls Tryd.prog 75 #[.agg #[.int .i64 a0_0, .string a0_1, .string a0_2, .int .i64 a0_3, .int .i64 a0_4, .string a0_5, .slice A0_6 l0_6.length c0_6, .int .i64 a0_7], .int .i64 a1, .slice A2 l2.length c2, .slice A3 l3.length c3] w fun e w' => e = .returned (.int .i64 r) ∧ Below w.heap.size w w' := by
 have hu67 := Tryd.underlying67
 have HR0_6 := Aside0.mk hr0_6
 have HC0_6 := Aside0.mk hc0_6
 clear hr0_6 hc0_6
 have HR2 := Aside0.mk hr2
 have HC2 := Aside0.mk hc2
 clear hr2 hc2
 have HR3 := Aside0.mk hr3
 have HC3 := Aside0.mk hc3
 clear hr3 hc3
 have HB := Aside0.mk (Below.refl w.heap.size w)
 have H : (if a0_0 = 0 then ((malthouseref11_is.f k l2 a0_1).bind fun t102 => (if t102 = true then (some 0) else (some 4))) else (if a0_0 = 3 then ((malthouseref11_is.f k l3 a0_1).bind fun t103 => ((malthouseref01_Name.f k a0_2).bind fun t104 => (if t103 = true then (if t104 = true then (some 0) else (some 1)) else (some 4)))) else (if a0_0 = 4 then ((malthouseref11_is.f k l3 a0_1).bind fun t105 => (if t105 = true then (some 0) else (some 4))) else (if a0_0 = 5 then ((malthouseref11_is.f k l3 a0_1).bind fun t106 => ((malthouseref11_is.f k l3 a0_2).bind fun t107 => (if t106 = true then (malthouseref11_named.j0 k (!t107) a0_0 a0_1 a0_2 a0_3 a0_4 a0_5 l0_6 a0_7) else (malthouseref11_named.j0 k true a0_0 a0_1 a0_2 a0_3 a0_4 a0_5 l0_6 a0_7)))) else (if a0_0 = 7 then ((malthouseref01_Quote.f k a0_1).bind fun bt108 => (if bt108.2 = true then (some 0) else (some 1))) else (if a0_0 = 6 then (if a0_7 < 0 then (some 1) else (if a0_7 > a1 then (some 1) else (some 0))) else (some 0))))))) = some r := h
 clear h
 by_cases c5 : a0_0 = 0
 ·rw [if_pos c5] at H
  obtain ⟨c5b0, c5b1⟩ := qe c5
  clear c5
  replace H := qi H
  obtain ⟨t102, A6, H⟩ := H
  by_cases c7 : t102 = true
  ·subst c7
   rw [if_pos rfl] at H
   obtain rfl := Option.some.inj H
   go_enter Tryd.func75, Tryd.ntmps75
   go_wp2_with (first | ((with_reducible refine gate_dst (N := 4) rfl ?_); refine box_event ?hg (N := 4) ?hd (cs := #[.int .i64 a0_0, .string a0_1, .string a0_2, .int .i64 a0_3, .int .i64 a0_4, .string a0_5, .slice A0_6 l0_6.length c0_6, .int .i64 a0_7]) (t := 67) ?hr ?_; (case hd => rfl); (case hg => rfl); (case hr => first | (go_simp; done) | (go_simp; rfl)); intro gb101 hg w8 hbox hb; have n0_ := qs hb; have n1_ := Aside0.mk (hbox); have n2_ := Aside0.mk ((by rw [hg]; exact (below_size qb) : w.heap.size ≤ gb101)); have n3_ := Aside0.mk ((by rw [hg]; exact (below_size qb) : w.heap.size ≤ gb101)); clear HB; have HB := n0_; have BK101 := n1_; have GW101 := n2_; have GE101 := n3_; clear n0_ n1_ n2_ n3_; clear hb hbox hg; obtain ⟨_, _, _, _, _, _, _, _, _, _, _, _, _, _, _, _⟩ := q8 BK101.out) | ((with_reducible refine gate_callee (f := 78) rfl ?_); refine goesL_ (some 24) rfl rfl Tryd.func78 (by kernel_rfl) rfl #[.slice A2 l2.length c2, .string a0_1] rfl qm ?_; (with_reducible refine (malthouseref11_is.calls k _ _ l2 a0_1 true _ ?side1 ?side2 A6.out).mono ?_); (case side1 => exact qC HR2.out); (case side2 => exact HC2.out); rintro e w' ⟨rfl, ⟨nd, rfl⟩⟩; refine ⟨_, rfl, ?_⟩))
   go_ret
   exact qr
  replace c7 := Bool.eq_false_iff.mpr c7
  subst c7
  rw [if_neg qf] at H
  obtain rfl := Option.some.inj H
  go_enter Tryd.func75, Tryd.ntmps75
  go_wp2_with (first | ((with_reducible refine gate_dst (N := 4) rfl ?_); refine box_event ?hg (N := 4) ?hd (cs := #[.int .i64 a0_0, .string a0_1, .string a0_2, .int .i64 a0_3, .int .i64 a0_4, .string a0_5, .slice A0_6 l0_6.length c0_6, .int .i64 a0_7]) (t := 67) ?hr ?_; (case hd => rfl); (case hg => rfl); (case hr => first | (go_simp; done) | (go_simp; rfl)); intro gb101 hg w10 hbox hb; have n0_ := qs hb; have n1_ := Aside0.mk (hbox); have n2_ := Aside0.mk ((by rw [hg]; exact (below_size qb) : w.heap.size ≤ gb101)); have n3_ := Aside0.mk ((by rw [hg]; exact (below_size qb) : w.heap.size ≤ gb101)); clear HB; have HB := n0_; have BK101 := n1_; have GW101 := n2_; have GE101 := n3_; clear n0_ n1_ n2_ n3_; clear hb hbox hg; obtain ⟨_, _, _, _, _, _, _, _, _, _, _, _, _, _, _, _⟩ := q8 BK101.out) | ((with_reducible refine gate_callee (f := 78) rfl ?_); refine goesL_ (some 24) rfl rfl Tryd.func78 (by kernel_rfl) rfl #[.slice A2 l2.length c2, .string a0_1] rfl qm ?_; (with_reducible refine (malthouseref11_is.calls k _ _ l2 a0_1 false _ ?side1 ?side2 A6.out).mono ?_); (case side1 => exact qC HR2.out); (case side2 => exact HC2.out); rintro e w' ⟨rfl, ⟨nd, rfl⟩⟩; refine ⟨_, rfl, ?_⟩))
  go_ret
  exact qr
 rw [if_neg c5] at H
 obtain ⟨c5b0, c5b1⟩ := qd c5
 by_cases c12 : a0_0 = 3
 ·rw [if_pos c12] at H
  obtain ⟨c12b0, c12b1⟩ := qe c12
  clear c12
  replace H := qi H
  obtain ⟨t103, A13, H⟩ := H
  replace H := qi H
  obtain ⟨t104, A14, H⟩ := H
  by_cases c15 : t103 = true
  ·subst c15
   rw [if_pos rfl] at H
   by_cases c16 : t104 = true
   ·subst c16
    rw [if_pos rfl] at H
    obtain rfl := Option.some.inj H
    go_enter Tryd.func75, Tryd.ntmps75
    go_wp2_with (first | ((with_reducible refine gate_dst (N := 4) rfl ?_); refine box_event ?hg (N := 4) ?hd (cs := #[.int .i64 a0_0, .string a0_1, .string a0_2, .int .i64 a0_3, .int .i64 a0_4, .string a0_5, .slice A0_6 l0_6.length c0_6, .int .i64 a0_7]) (t := 67) ?hr ?_; (case hd => rfl); (case hg => rfl); (case hr => first | (go_simp; done) | (go_simp; rfl)); intro gb101 hg w17 hbox hb; have n0_ := qs hb; have n1_ := Aside0.mk (hbox); have n2_ := Aside0.mk ((by rw [hg]; exact (below_size qb) : w.heap.size ≤ gb101)); have n3_ := Aside0.mk ((by rw [hg]; exact (below_size qb) : w.heap.size ≤ gb101)); clear HB; have HB := n0_; have BK101 := n1_; have GW101 := n2_; have GE101 := n3_; clear n0_ n1_ n2_ n3_; clear hb hbox hg; obtain ⟨_, _, _, _, _, _, _, _, _, _, _, _, _, _, _, _⟩ := q8 BK101.out) | ((with_reducible refine gate_callee (f := 78) rfl ?_); refine goesL_ (some 32) rfl rfl Tryd.func78 (by kernel_rfl) rfl #[.slice A3 l3.length c3, .string a0_1] rfl qm ?_; (with_reducible refine (malthouseref11_is.calls k _ _ l3 a0_1 true _ ?side1 ?side2 A13.out).mono ?_); (case side1 => exact qC HR3.out); (case side2 => exact HC3.out); rintro e w' ⟨rfl, ⟨nd, rfl⟩⟩; refine ⟨_, rfl, ?_⟩) | ((with_reducible refine gate_callee (f := 94) rfl ?_); refine goesL_ (some 35) rfl rfl Tryd.func94 (by kernel_rfl) rfl #[.string a0_2] rfl qm ?_; (with_reducible refine (malthouseref01_Name.calls k a0_2 true _ A14.out).mono ?_); rintro e w19 ⟨rfl, hb⟩; refine ⟨_, rfl, ?_⟩; have n0_ := qn101 (g := gb101) hb; have n1_ := qs hb; clear BK101; clear HB; have BK101 := n0_; have HB := n1_; clear n0_ n1_; (try clear hb)))
    go_ret
    exact qr
   replace c16 := Bool.eq_false_iff.mpr c16
   subst c16
   rw [if_neg qf] at H
   obtain rfl := Option.some.inj H
   go_enter Tryd.func75, Tryd.ntmps75
   go_wp2_with (first | ((with_reducible refine gate_dst (N := 4) rfl ?_); refine box_event ?hg (N := 4) ?hd (cs := #[.int .i64 a0_0, .string a0_1, .string a0_2, .int .i64 a0_3, .int .i64 a0_4, .string a0_5, .slice A0_6 l0_6.length c0_6, .int .i64 a0_7]) (t := 67) ?hr ?_; (case hd => rfl); (case hg => rfl); (case hr => first | (go_simp; done) | (go_simp; rfl)); intro gb101 hg w20 hbox hb; have n0_ := qs hb; have n1_ := Aside0.mk (hbox); have n2_ := Aside0.mk ((by rw [hg]; exact (below_size qb) : w.heap.size ≤ gb101)); have n3_ := Aside0.mk ((by rw [hg]; exact (below_size qb) : w.heap.size ≤ gb101)); clear HB; have HB := n0_; have BK101 := n1_; have GW101 := n2_; have GE101 := n3_; clear n0_ n1_ n2_ n3_; clear hb hbox hg; obtain ⟨_, _, _, _, _, _, _, _, _, _, _, _, _, _, _, _⟩ := q8 BK101.out) | ((with_reducible refine gate_callee (f := 78) rfl ?_); refine goesL_ (some 32) rfl rfl Tryd.func78 (by kernel_rfl) rfl #[.slice A3 l3.length c3, .string a0_1] rfl qm ?_; (with_reducible refine (malthouseref11_is.calls k _ _ l3 a0_1 true _ ?side1 ?side2 A13.out).mono ?_); (case side1 => exact qC HR3.out); (case side2 => exact HC3.out); rintro e w' ⟨rfl, ⟨nd, rfl⟩⟩; refine ⟨_, rfl, ?_⟩) | ((with_reducible refine gate_callee (f := 94) rfl ?_); refine goesL_ (some 35) rfl rfl Tryd.func94 (by kernel_rfl) rfl #[.string a0_2] rfl qm ?_; (with_reducible refine (malthouseref01_Name.calls k a0_2 false _ A14.out).mono ?_); rintro e w22 ⟨rfl, hb⟩; refine ⟨_, rfl, ?_⟩; have n0_ := qn101 (g := gb101) hb; have n1_ := qs hb; clear BK101; clear HB; have BK101 := n0_; have HB := n1_; clear n0_ n1_; (try clear hb)))
   go_ret
   exact qr
  replace c15 := Bool.eq_false_iff.mpr c15
  subst c15
  rw [if_neg qf] at H
  obtain rfl := Option.some.inj H
  go_enter Tryd.func75, Tryd.ntmps75
  go_wp2_with (first | ((with_reducible refine gate_dst (N := 4) rfl ?_); refine box_event ?hg (N := 4) ?hd (cs := #[.int .i64 a0_0, .string a0_1, .string a0_2, .int .i64 a0_3, .int .i64 a0_4, .string a0_5, .slice A0_6 l0_6.length c0_6, .int .i64 a0_7]) (t := 67) ?hr ?_; (case hd => rfl); (case hg => rfl); (case hr => first | (go_simp; done) | (go_simp; rfl)); intro gb101 hg w23 hbox hb; have n0_ := qs hb; have n1_ := Aside0.mk (hbox); have n2_ := Aside0.mk ((by rw [hg]; exact (below_size qb) : w.heap.size ≤ gb101)); have n3_ := Aside0.mk ((by rw [hg]; exact (below_size qb) : w.heap.size ≤ gb101)); clear HB; have HB := n0_; have BK101 := n1_; have GW101 := n2_; have GE101 := n3_; clear n0_ n1_ n2_ n3_; clear hb hbox hg; obtain ⟨_, _, _, _, _, _, _, _, _, _, _, _, _, _, _, _⟩ := q8 BK101.out) | ((with_reducible refine gate_callee (f := 78) rfl ?_); refine goesL_ (some 32) rfl rfl Tryd.func78 (by kernel_rfl) rfl #[.slice A3 l3.length c3, .string a0_1] rfl qm ?_; (with_reducible refine (malthouseref11_is.calls k _ _ l3 a0_1 false _ ?side1 ?side2 A13.out).mono ?_); (case side1 => exact qC HR3.out); (case side2 => exact HC3.out); rintro e w' ⟨rfl, ⟨nd, rfl⟩⟩; refine ⟨_, rfl, ?_⟩) | ((with_reducible refine gate_callee (f := 94) rfl ?_); refine goesL_ (some 35) rfl rfl Tryd.func94 (by kernel_rfl) rfl #[.string a0_2] rfl qm ?_; (with_reducible refine (malthouseref01_Name.calls k a0_2 t104 _ A14.out).mono ?_); rintro e w25 ⟨rfl, hb⟩; refine ⟨_, rfl, ?_⟩; have n0_ := qn101 (g := gb101) hb; have n1_ := qs hb; clear BK101; clear HB; have BK101 := n0_; have HB := n1_; clear n0_ n1_; (try clear hb)))
  go_ret
  exact qr
 rw [if_neg c12] at H
 obtain ⟨c12b0, c12b1⟩ := qd c12
 by_cases c26 : a0_0 = 4
 ·rw [if_pos c26] at H
  obtain ⟨c26b0, c26b1⟩ := qe c26
  clear c26
  replace H := qi H
  obtain ⟨t105, A27, H⟩ := H
  by_cases c28 : t105 = true
  ·subst c28
   rw [if_pos rfl] at H
   obtain rfl := Option.some.inj H
   go_enter Tryd.func75, Tryd.ntmps75
   go_wp2_with (first | ((with_reducible refine gate_dst (N := 4) rfl ?_); refine box_event ?hg (N := 4) ?hd (cs := #[.int .i64 a0_0, .string a0_1, .string a0_2, .int .i64 a0_3, .int .i64 a0_4, .string a0_5, .slice A0_6 l0_6.length c0_6, .int .i64 a0_7]) (t := 67) ?hr ?_; (case hd => rfl); (case hg => rfl); (case hr => first | (go_simp; done) | (go_simp; rfl)); intro gb101 hg w29 hbox hb; have n0_ := qs hb; have n1_ := Aside0.mk (hbox); have n2_ := Aside0.mk ((by rw [hg]; exact (below_size qb) : w.heap.size ≤ gb101)); have n3_ := Aside0.mk ((by rw [hg]; exact (below_size qb) : w.heap.size ≤ gb101)); clear HB; have HB := n0_; have BK101 := n1_; have GW101 := n2_; have GE101 := n3_; clear n0_ n1_ n2_ n3_; clear hb hbox hg; obtain ⟨_, _, _, _, _, _, _, _, _, _, _, _, _, _, _, _⟩ := q8 BK101.out) | ((with_reducible refine gate_callee (f := 78) rfl ?_); refine goesL_ (some 45) rfl rfl Tryd.func78 (by kernel_rfl) rfl #[.slice A3 l3.length c3, .string a0_1] rfl qm ?_; (with_reducible refine (malthouseref11_is.calls k _ _ l3 a0_1 true _ ?side1 ?side2 A27.out).mono ?_); (case side1 => exact qC HR3.out); (case side2 => exact HC3.out); rintro e w' ⟨rfl, ⟨nd, rfl⟩⟩; refine ⟨_, rfl, ?_⟩))
   go_ret
   exact qr
  replace c28 := Bool.eq_false_iff.mpr c28
  subst c28
  rw [if_neg qf] at H
  obtain rfl := Option.some.inj H
  go_enter Tryd.func75, Tryd.ntmps75
  go_wp2_with (first | ((with_reducible refine gate_dst (N := 4) rfl ?_); refine box_event ?hg (N := 4) ?hd (cs := #[.int .i64 a0_0, .string a0_1, .string a0_2, .int .i64 a0_3, .int .i64 a0_4, .string a0_5, .slice A0_6 l0_6.length c0_6, .int .i64 a0_7]) (t := 67) ?hr ?_; (case hd => rfl); (case hg => rfl); (case hr => first | (go_simp; done) | (go_simp; rfl)); intro gb101 hg w31 hbox hb; have n0_ := qs hb; have n1_ := Aside0.mk (hbox); have n2_ := Aside0.mk ((by rw [hg]; exact (below_size qb) : w.heap.size ≤ gb101)); have n3_ := Aside0.mk ((by rw [hg]; exact (below_size qb) : w.heap.size ≤ gb101)); clear HB; have HB := n0_; have BK101 := n1_; have GW101 := n2_; have GE101 := n3_; clear n0_ n1_ n2_ n3_; clear hb hbox hg; obtain ⟨_, _, _, _, _, _, _, _, _, _, _, _, _, _, _, _⟩ := q8 BK101.out) | ((with_reducible refine gate_callee (f := 78) rfl ?_); refine goesL_ (some 45) rfl rfl Tryd.func78 (by kernel_rfl) rfl #[.slice A3 l3.length c3, .string a0_1] rfl qm ?_; (with_reducible refine (malthouseref11_is.calls k _ _ l3 a0_1 false _ ?side1 ?side2 A27.out).mono ?_); (case side1 => exact qC HR3.out); (case side2 => exact HC3.out); rintro e w' ⟨rfl, ⟨nd, rfl⟩⟩; refine ⟨_, rfl, ?_⟩))
  go_ret
  exact qr
 rw [if_neg c26] at H
 obtain ⟨c26b0, c26b1⟩ := qd c26
 by_cases c33 : a0_0 = 5
 ·rw [if_pos c33] at H
  obtain ⟨c33b0, c33b1⟩ := qe c33
  clear c33
  replace H := qi H
  obtain ⟨t106, A34, H⟩ := H
  replace H := qi H
  obtain ⟨t107, A35, H⟩ := H
  have HC36 := Aside0.mk H
  clear H
  go_enter Tryd.func75, Tryd.ntmps75
  go_upto_region 20 with (first | ((with_reducible refine gate_dst (N := 4) rfl ?_); refine box_event ?hg (N := 4) ?hd (cs := #[.int .i64 a0_0, .string a0_1, .string a0_2, .int .i64 a0_3, .int .i64 a0_4, .string a0_5, .slice A0_6 l0_6.length c0_6, .int .i64 a0_7]) (t := 67) ?hr ?_; (case hd => rfl); (case hg => rfl); (case hr => first | (go_simp; done) | (go_simp; rfl)); intro gb101 hg w37 hbox hb; have n0_ := qs hb; have n1_ := Aside0.mk (hbox); have n2_ := Aside0.mk ((by rw [hg]; exact (below_size qb) : w.heap.size ≤ gb101)); have n3_ := Aside0.mk ((by rw [hg]; exact (below_size qb) : w.heap.size ≤ gb101)); clear HB; have HB := n0_; have BK101 := n1_; have GW101 := n2_; have GE101 := n3_; clear n0_ n1_ n2_ n3_; clear hb hbox hg; obtain ⟨_, _, _, _, _, _, _, _, _, _, _, _, _, _, _, _⟩ := q8 BK101.out) | ((with_reducible refine gate_callee (f := 78) rfl ?_); refine goesL_ (some 53) rfl rfl Tryd.func78 (by kernel_rfl) rfl #[.slice A3 l3.length c3, .string a0_1] rfl qm ?_; (with_reducible refine (malthouseref11_is.calls k _ _ l3 a0_1 t106 _ ?side1 ?side2 A34.out).mono ?_); (case side1 => exact qC HR3.out); (case side2 => exact HC3.out); rintro e w' ⟨rfl, ⟨nd, rfl⟩⟩; refine ⟨_, rfl, ?_⟩) | ((with_reducible refine gate_callee (f := 78) rfl ?_); refine goesL_ (some 57) rfl rfl Tryd.func78 (by kernel_rfl) rfl #[.slice A3 l3.length c3, .string a0_2] rfl qm ?_; (with_reducible refine (malthouseref11_is.calls k _ _ l3 a0_2 t107 _ ?side1 ?side2 A35.out).mono ?_); (case side1 => repeat (first | exact (Kd.C_below HR3.out qb) | (with_reducible refine Kd.C_alloc ?_ _) | (with_reducible refine Kd.C_drewN ?_ _) | (with_reducible refine Kd.C_drew ?_))); (case side2 => exact HC3.out); rintro e w' ⟨rfl, ⟨nd, rfl⟩⟩; refine ⟨_, rfl, ?_⟩))
  (try simp only [Act.put, List.setIfInBounds_toArray, List.set_cons_zero, List.set_cons_succ])
  go_cut [63] (fun v63 wc => ∃ (kq : Nat) (x63_35 : Bool), v63 = .bool x63_35 ∧ Aside0 (malthouseref11_named.j0 kq x63_35 a0_0 a0_1 a0_2 a0_3 a0_4 a0_5 l0_6 a0_7 = some r) ∧ Aside0 (kq ≤ k) ∧ Aside0 (wc.heap[gb101]? = some (.cells #[.int .i64 a0_0, .string a0_1, .string a0_2, .int .i64 a0_3, .int .i64 a0_4, .string a0_5, (.slice A0_6 l0_6.length c0_6), .int .i64 a0_7] 67 (0, 0))) ∧ Aside0 (Below w.heap.size w wc))
  case first =>
   have H := HC36.out
   clear HC36
   by_cases c39 : t106 = true
   ·subst c39
    rw [if_pos rfl] at H
    have H' := Aside0.mk H
    clear H
    go_wp2
    go_meet
    case rel => exact ⟨_, (!t107), qv, H', ql, qk101, qB⟩
   replace c39 := Bool.eq_false_iff.mpr c39
   subst c39
   rw [if_neg qf] at H
   have H' := Aside0.mk H
   clear H
   go_wp2
   go_meet
   case rel => exact ⟨_, (true), qv, H', ql, qk101, qB⟩
  clear HC36
  obtain ⟨kq, x63_35, rfl, HA, HJ35, BK101, HB⟩ := hcut
  cases kq with
  | zero => exact absurd HA.out (by simp [malthouseref11_named.j0])
  | succ kj35 =>
   have H := HA.out
   clear HA
   simp only [malthouseref11_named.j0] at H
   by_cases c40 : x63_35 = true
   ·subst c40
    rw [if_pos rfl] at H
    obtain rfl := Option.some.inj H
    go_wp2
    go_ret
    exact qr
   replace c40 := Bool.eq_false_iff.mpr c40
   subst c40
   rw [if_neg qf] at H
   by_cases c41 : a0_1.toList = a0_2.toList
   ·rw [if_pos c41] at H
    obtain ⟨c41b0, c41b1⟩ := qe c41
    clear c41
    obtain rfl := Option.some.inj H
    obtain ⟨_, _, _, _, _, _, _, _, _, _, _, _, _, _, _, _⟩ := q8 BK101.out
    go_wp2
    go_ret
    exact qr
   rw [if_neg c41] at H
   obtain ⟨c41b0, c41b1⟩ := qd c41
   obtain rfl := Option.some.inj H
   obtain ⟨_, _, _, _, _, _, _, _, _, _, _, _, _, _, _, _⟩ := q8 BK101.out
   go_wp2
   go_ret
   exact qr
 rw [if_neg c33] at H
 obtain ⟨c33b0, c33b1⟩ := qd c33
 by_cases c44 : a0_0 = 7
 ·rw [if_pos c44] at H
  obtain ⟨c44b0, c44b1⟩ := qe c44
  clear c44
  replace H := qi H
  obtain ⟨⟨t108, t109⟩, A45, H⟩ := H
  replace H : (if t109 = true then (some 0) else (some 1)) = some r := H
  by_cases c46 : t109 = true
  ·subst c46
   rw [if_pos rfl] at H
   obtain rfl := Option.some.inj H
   go_enter Tryd.func75, Tryd.ntmps75
   go_wp2_with (first | ((with_reducible refine gate_dst (N := 4) rfl ?_); refine box_event ?hg (N := 4) ?hd (cs := #[.int .i64 a0_0, .string a0_1, .string a0_2, .int .i64 a0_3, .int .i64 a0_4, .string a0_5, .slice A0_6 l0_6.length c0_6, .int .i64 a0_7]) (t := 67) ?hr ?_; (case hd => rfl); (case hg => rfl); (case hr => first | (go_simp; done) | (go_simp; rfl)); intro gb101 hg w47 hbox hb; have n0_ := qs hb; have n1_ := Aside0.mk (hbox); have n2_ := Aside0.mk ((by rw [hg]; exact (below_size qb) : w.heap.size ≤ gb101)); have n3_ := Aside0.mk ((by rw [hg]; exact (below_size qb) : w.heap.size ≤ gb101)); clear HB; have HB := n0_; have BK101 := n1_; have GW101 := n2_; have GE101 := n3_; clear n0_ n1_ n2_ n3_; clear hb hbox hg; obtain ⟨_, _, _, _, _, _, _, _, _, _, _, _, _, _, _, _⟩ := q8 BK101.out) | ((with_reducible refine gate_callee (f := 107) rfl ?_); refine goesL_ (some 74) rfl rfl Tryd.func107 (by kernel_rfl) rfl #[.string a0_1] rfl qm ?_; (with_reducible refine (malthouseref01_Quote.calls k a0_1 t108 true _ A45.out).mono ?_); rintro e w49 ⟨rfl, hb⟩; refine ⟨_, rfl, ?_⟩; have n0_ := qn101 (g := gb101) hb; have n1_ := qs hb; clear BK101; clear HB; have BK101 := n0_; have HB := n1_; clear n0_ n1_; (try clear hb)))
   go_ret
   exact qr
  replace c46 := Bool.eq_false_iff.mpr c46
  subst c46
  rw [if_neg qf] at H
  obtain rfl := Option.some.inj H
  go_enter Tryd.func75, Tryd.ntmps75
  go_wp2_with (first | ((with_reducible refine gate_dst (N := 4) rfl ?_); refine box_event ?hg (N := 4) ?hd (cs := #[.int .i64 a0_0, .string a0_1, .string a0_2, .int .i64 a0_3, .int .i64 a0_4, .string a0_5, .slice A0_6 l0_6.length c0_6, .int .i64 a0_7]) (t := 67) ?hr ?_; (case hd => rfl); (case hg => rfl); (case hr => first | (go_simp; done) | (go_simp; rfl)); intro gb101 hg w50 hbox hb; have n0_ := qs hb; have n1_ := Aside0.mk (hbox); have n2_ := Aside0.mk ((by rw [hg]; exact (below_size qb) : w.heap.size ≤ gb101)); have n3_ := Aside0.mk ((by rw [hg]; exact (below_size qb) : w.heap.size ≤ gb101)); clear HB; have HB := n0_; have BK101 := n1_; have GW101 := n2_; have GE101 := n3_; clear n0_ n1_ n2_ n3_; clear hb hbox hg; obtain ⟨_, _, _, _, _, _, _, _, _, _, _, _, _, _, _, _⟩ := q8 BK101.out) | ((with_reducible refine gate_callee (f := 107) rfl ?_); refine goesL_ (some 74) rfl rfl Tryd.func107 (by kernel_rfl) rfl #[.string a0_1] rfl qm ?_; (with_reducible refine (malthouseref01_Quote.calls k a0_1 t108 false _ A45.out).mono ?_); rintro e w52 ⟨rfl, hb⟩; refine ⟨_, rfl, ?_⟩; have n0_ := qn101 (g := gb101) hb; have n1_ := qs hb; clear BK101; clear HB; have BK101 := n0_; have HB := n1_; clear n0_ n1_; (try clear hb)))
  go_ret
  exact qr
 rw [if_neg c44] at H
 obtain ⟨c44b0, c44b1⟩ := qd c44
 by_cases c53 : a0_0 = 6
 ·rw [if_pos c53] at H
  obtain ⟨c53b0, c53b1⟩ := qe c53
  clear c53
  by_cases c54 : a0_7 < 0
  ·rw [if_pos c54] at H
   have c54b0 : decide (a0_7 < 0) = true := decide_eq_true c54
   clear c54
   obtain rfl := Option.some.inj H
   go_enter Tryd.func75, Tryd.ntmps75
   go_wp2_with (first | ((with_reducible refine gate_dst (N := 4) rfl ?_); refine box_event ?hg (N := 4) ?hd (cs := #[.int .i64 a0_0, .string a0_1, .string a0_2, .int .i64 a0_3, .int .i64 a0_4, .string a0_5, .slice A0_6 l0_6.length c0_6, .int .i64 a0_7]) (t := 67) ?hr ?_; (case hd => rfl); (case hg => rfl); (case hr => first | (go_simp; done) | (go_simp; rfl)); intro gb101 hg w55 hbox hb; have n0_ := qs hb; have n1_ := Aside0.mk (hbox); have n2_ := Aside0.mk ((by rw [hg]; exact (below_size qb) : w.heap.size ≤ gb101)); have n3_ := Aside0.mk ((by rw [hg]; exact (below_size qb) : w.heap.size ≤ gb101)); clear HB; have HB := n0_; have BK101 := n1_; have GW101 := n2_; have GE101 := n3_; clear n0_ n1_ n2_ n3_; clear hb hbox hg; obtain ⟨_, _, _, _, _, _, _, _, _, _, _, _, _, _, _, _⟩ := q8 BK101.out))
   go_ret
   exact qr
  rw [if_neg c54] at H
  have c54b0 : decide (a0_7 < 0) = false := decide_eq_false c54
  clear c54
  by_cases c57 : a0_7 > a1
  ·rw [if_pos c57] at H
   have c57b0 : decide (a1 < a0_7) = true := decide_eq_true c57
   clear c57
   obtain rfl := Option.some.inj H
   go_enter Tryd.func75, Tryd.ntmps75
   go_wp2_with (first | ((with_reducible refine gate_dst (N := 4) rfl ?_); refine box_event ?hg (N := 4) ?hd (cs := #[.int .i64 a0_0, .string a0_1, .string a0_2, .int .i64 a0_3, .int .i64 a0_4, .string a0_5, .slice A0_6 l0_6.length c0_6, .int .i64 a0_7]) (t := 67) ?hr ?_; (case hd => rfl); (case hg => rfl); (case hr => first | (go_simp; done) | (go_simp; rfl)); intro gb101 hg w58 hbox hb; have n0_ := qs hb; have n1_ := Aside0.mk (hbox); have n2_ := Aside0.mk ((by rw [hg]; exact (below_size qb) : w.heap.size ≤ gb101)); have n3_ := Aside0.mk ((by rw [hg]; exact (below_size qb) : w.heap.size ≤ gb101)); clear HB; have HB := n0_; have BK101 := n1_; have GW101 := n2_; have GE101 := n3_; clear n0_ n1_ n2_ n3_; clear hb hbox hg; obtain ⟨_, _, _, _, _, _, _, _, _, _, _, _, _, _, _, _⟩ := q8 BK101.out))
   go_ret
   exact qr
  rw [if_neg c57] at H
  have c57b0 : decide (a1 < a0_7) = false := decide_eq_false c57
  clear c57
  obtain rfl := Option.some.inj H
  go_enter Tryd.func75, Tryd.ntmps75
  go_wp2_with (first | ((with_reducible refine gate_dst (N := 4) rfl ?_); refine box_event ?hg (N := 4) ?hd (cs := #[.int .i64 a0_0, .string a0_1, .string a0_2, .int .i64 a0_3, .int .i64 a0_4, .string a0_5, .slice A0_6 l0_6.length c0_6, .int .i64 a0_7]) (t := 67) ?hr ?_; (case hd => rfl); (case hg => rfl); (case hr => first | (go_simp; done) | (go_simp; rfl)); intro gb101 hg w60 hbox hb; have n0_ := qs hb; have n1_ := Aside0.mk (hbox); have n2_ := Aside0.mk ((by rw [hg]; exact (below_size qb) : w.heap.size ≤ gb101)); have n3_ := Aside0.mk ((by rw [hg]; exact (below_size qb) : w.heap.size ≤ gb101)); clear HB; have HB := n0_; have BK101 := n1_; have GW101 := n2_; have GE101 := n3_; clear n0_ n1_ n2_ n3_; clear hb hbox hg; obtain ⟨_, _, _, _, _, _, _, _, _, _, _, _, _, _, _, _⟩ := q8 BK101.out))
  go_ret
  exact qr
 rw [if_neg c53] at H
 obtain ⟨c53b0, c53b1⟩ := qd c53
 obtain rfl := Option.some.inj H
 go_enter Tryd.func75, Tryd.ntmps75
 go_wp2_with (first | ((with_reducible refine gate_dst (N := 4) rfl ?_); refine box_event ?hg (N := 4) ?hd (cs := #[.int .i64 a0_0, .string a0_1, .string a0_2, .int .i64 a0_3, .int .i64 a0_4, .string a0_5, .slice A0_6 l0_6.length c0_6, .int .i64 a0_7]) (t := 67) ?hr ?_; (case hd => rfl); (case hg => rfl); (case hr => first | (go_simp; done) | (go_simp; rfl)); intro gb101 hg w62 hbox hb; have n0_ := qs hb; have n1_ := Aside0.mk (hbox); have n2_ := Aside0.mk ((by rw [hg]; exact (below_size qb) : w.heap.size ≤ gb101)); have n3_ := Aside0.mk ((by rw [hg]; exact (below_size qb) : w.heap.size ≤ gb101)); clear HB; have HB := n0_; have BK101 := n1_; have GW101 := n2_; have GE101 := n3_; clear n0_ n1_ n2_ n3_; clear hb hbox hg; obtain ⟨_, _, _, _, _, _, _, _, _, _, _, _, _, _, _, _⟩ := q8 BK101.out))
 go_ret
 exact qr
end Go.Proofs.YtiaccdaeomaogaaDoor.F
