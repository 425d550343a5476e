/- Texts of one claim, slimmed and merged by slim.py. -/
import Derived.Test.YtiaccdaeomaogaaDoorT4
import Derived.Test.YtiaccdaeomaogaaDoorT25
namespace Go.Proofs.YtiaccdaeomaogaaDoor.F
open Go.RowKit Go.Proofs.YtiaccdaeomaogaaDoorW.PrintWords Go.Proofs.YtiaccdaeomaogaaDoorW.PrintLast Go.Proofs.YtiaccdaeomaogaaDoorW.PrintMore
attribute [local go_sem] max2_int min2_int max_two min_two max_three min_three max_four min_four   -- for this text's walks alone
set_option linter.unusedVariables false
set_option linter.unusedSimpArgs false
def malthouseref02_Wrapped.f (k : Nat) (a0_0 : Int) (a0_1 : Int) (a0_2 : ByteArray) (l0_3 : List (S34)) (a1 : Int) : Option (Bool) := (malthouseref02_Line.f k a0_0).bind fun t102 => (if 0 ≤ a1 then (if a1 < (l0_3.length : Int) then ((malthouseref02_Line.f k ((rd_T34 l0_3 a1).f0)).bind fun t104 => (if t104 < t102 then (some true) else (if t104 = t102 then (if t102 = 6 then (some false) else (if a1 = 1 then (some true) else (some (t102 == 3)))) else (some false)))) else (none)) else (none))
set_option maxHeartbeats 8000000 in
set_option maxRecDepth 100000 in
theorem malthouseref02_Wrapped.calls (k : Nat) (a0_0 : Int) (a0_1 : Int) (a0_2 : ByteArray) (A0_3 : Option Addr) (c0_3 : Nat) (l0_3 : List (S34)) (a1 : Int) (r : Bool) (w : World) (hr0_3 : Kd.C k34 w A0_3 l0_3.length l0_3) (hc0_3 : l0_3.length ≤ c0_3) (h : malthouseref02_Wrapped.f k a0_0 a0_1 a0_2 l0_3 a1 = some r) :
  Calls Tryd.prog 141 #[.agg #[.int .i64 a0_0, .int .i64 a0_1, .string a0_2, .slice A0_3 l0_3.length c0_3], .int .i64 a1] w fun e w' => e = .returned (.bool r) ∧ Below w.heap.size w w' := by
 have hu34 := Tryd.underlying34
 have HR0_3 := Aside0.mk hr0_3
 have HC0_3 := Aside0.mk hc0_3
 clear hr0_3 hc0_3
 have HB := Aside0.mk (Below.refl w.heap.size w)
 have H : ((malthouseref02_Line.f k a0_0).bind fun t102 => (if 0 ≤ a1 then (if a1 < (l0_3.length : Int) then ((malthouseref02_Line.f k ((rd_T34 l0_3 a1).f0)).bind fun t104 => (if t104 < t102 then (some true) else (if t104 = t102 then (if t102 = 6 then (some false) else (if a1 = 1 then (some true) else (some (t102 == 3)))) else (some false)))) else (none)) else (none))) = some r := h
 clear h
 replace H := qi H
 obtain ⟨t102, A3, H⟩ := H
 by_cases c4 : 0 ≤ a1
 ·rw [if_pos c4] at H
  have c4b0 : decide (0 ≤ a1) = true := decide_eq_true c4
  clear c4
  by_cases c5 : a1 < (l0_3.length : Int)
  ·rw [if_pos c5] at H
   have c5b0 : decide (a1 < (l0_3.length : Int)) = true := decide_eq_true c5
   clear c5
   replace H := qi H
   obtain ⟨t104, A6, H⟩ := H
   by_cases c7 : t104 < t102
   ·rw [if_pos c7] at H
    have c7b0 : decide (t104 < t102) = true := decide_eq_true c7
    clear c7
    obtain rfl := Option.some.inj H
    go_enter Tryd.func141, Tryd.ntmps141
    go_wp2_with (first | ((with_reducible refine gate_dst (N := 2) rfl ?_); refine box_event ?hg (N := 2) ?hd (cs := #[.int .i64 a0_0, .int .i64 a0_1, .string a0_2, .slice A0_3 l0_3.length c0_3]) (t := 34) ?hr ?_; (case hd => rfl); (case hg => rfl); (case hr => first | (go_simp; done) | (go_simp; rfl)); intro gb101 hg w8 hbox hb; have n0_ := qs hb; have n1_ := Aside0.mk (hbox); have n2_ := Aside0.mk ((by rw [hg]; exact (below_size qb) : w.heap.size ≤ gb101)); have n3_ := Aside0.mk ((by rw [hg]; exact (below_size qb) : w.heap.size ≤ gb101)); clear HB; have HB := n0_; have BK101 := n1_; have GW101 := n2_; have GE101 := n3_; clear n0_ n1_ n2_ n3_; clear hb hbox hg; obtain ⟨_, _, _, _, _, _, _, _⟩ := q4 BK101.out) | ((with_reducible refine gate_callee (f := 158) rfl ?_); refine goesL_ (some 9) rfl rfl Tryd.func158 (by kernel_rfl) rfl #[.int .i64 a0_0] rfl qm ?_; (with_reducible refine (malthouseref02_Line.calls k a0_0 t102 _ A3.out).mono ?_); rintro e w' ⟨rfl, ⟨nd, rfl⟩⟩; refine ⟨_, rfl, ?_⟩; have p103 : 0 ≤ (a1 : Int) := qa; have q103 : a1 < (l0_3.length : Int) := qa; obtain ⟨ad103, A103_3, c103_3, e103, hx103_0, hx103_1, hx103_2, hx103_3, hl103_3, hi103_3⟩ := at_T34 HR0_3.out a1 p103 q103; cases e103; replace hx103_0 := qc HB.out hx103_0; replace hx103_1 := qc HB.out hx103_1; replace hx103_2 := qc HB.out hx103_2; replace hx103_3 := qc HB.out hx103_3; have HR103_3 := Aside0.mk hi103_3; have HC103_3 := Aside0.mk hl103_3; clear hi103_3 hl103_3; replace p103 := eq_true p103; replace q103 := eq_true q103) | ((with_reducible refine gate_callee (f := 158) rfl ?_); refine goesL_ (some 16) rfl rfl Tryd.func158 (by kernel_rfl) rfl #[.int .i64 ((rd_T34 l0_3 a1).f0)] rfl qm ?_; (with_reducible refine (malthouseref02_Line.calls k ((rd_T34 l0_3 a1).f0) t104 _ A6.out).mono ?_); rintro e w' ⟨rfl, ⟨nd, rfl⟩⟩; refine ⟨_, rfl, ?_⟩))
    go_ret
    exact qr
   rw [if_neg c7] at H
   have c7b0 : decide (t104 < t102) = false := decide_eq_false c7
   clear c7
   by_cases c10 : t104 = t102
   ·rw [if_pos c10] at H
    obtain ⟨c10b0, c10b1⟩ := qe c10
    clear c10
    by_cases c11 : t102 = 6
    ·rw [if_pos c11] at H
     obtain ⟨c11b0, c11b1⟩ := qe c11
     clear c11
     obtain rfl := Option.some.inj H
     go_enter Tryd.func141, Tryd.ntmps141
     go_wp2_with (first | ((with_reducible refine gate_dst (N := 2) rfl ?_); refine box_event ?hg (N := 2) ?hd (cs := #[.int .i64 a0_0, .int .i64 a0_1, .string a0_2, .slice A0_3 l0_3.length c0_3]) (t := 34) ?hr ?_; (case hd => rfl); (case hg => rfl); (case hr => first | (go_simp; done) | (go_simp; rfl)); intro gb101 hg w12 hbox hb; have n0_ := qs hb; have n1_ := Aside0.mk (hbox); have n2_ := Aside0.mk ((by rw [hg]; exact (below_size qb) : w.heap.size ≤ gb101)); have n3_ := Aside0.mk ((by rw [hg]; exact (below_size qb) : w.heap.size ≤ gb101)); clear HB; have HB := n0_; have BK101 := n1_; have GW101 := n2_; have GE101 := n3_; clear n0_ n1_ n2_ n3_; clear hb hbox hg; obtain ⟨_, _, _, _, _, _, _, _⟩ := q4 BK101.out) | ((with_reducible refine gate_callee (f := 158) rfl ?_); refine goesL_ (some 9) rfl rfl Tryd.func158 (by kernel_rfl) rfl #[.int .i64 a0_0] rfl qm ?_; (with_reducible refine (malthouseref02_Line.calls k a0_0 t102 _ A3.out).mono ?_); rintro e w' ⟨rfl, ⟨nd, rfl⟩⟩; refine ⟨_, rfl, ?_⟩; have p103 : 0 ≤ (a1 : Int) := qa; have q103 : a1 < (l0_3.length : Int) := qa; obtain ⟨ad103, A103_3, c103_3, e103, hx103_0, hx103_1, hx103_2, hx103_3, hl103_3, hi103_3⟩ := at_T34 HR0_3.out a1 p103 q103; cases e103; replace hx103_0 := qc HB.out hx103_0; replace hx103_1 := qc HB.out hx103_1; replace hx103_2 := qc HB.out hx103_2; replace hx103_3 := qc HB.out hx103_3; have HR103_3 := Aside0.mk hi103_3; have HC103_3 := Aside0.mk hl103_3; clear hi103_3 hl103_3; replace p103 := eq_true p103; replace q103 := eq_true q103) | ((with_reducible refine gate_callee (f := 158) rfl ?_); refine goesL_ (some 16) rfl rfl Tryd.func158 (by kernel_rfl) rfl #[.int .i64 ((rd_T34 l0_3 a1).f0)] rfl qm ?_; (with_reducible refine (malthouseref02_Line.calls k ((rd_T34 l0_3 a1).f0) t104 _ A6.out).mono ?_); rintro e w' ⟨rfl, ⟨nd, rfl⟩⟩; refine ⟨_, rfl, ?_⟩))
     go_ret
     exact qr
    rw [if_neg c11] at H
    obtain ⟨c11b0, c11b1⟩ := qd c11
    by_cases c14 : a1 = 1
    ·rw [if_pos c14] at H
     obtain ⟨c14b0, c14b1⟩ := qe c14
     clear c14
     obtain rfl := Option.some.inj H
     go_enter Tryd.func141, Tryd.ntmps141
     go_wp2_with (first | ((with_reducible refine gate_dst (N := 2) rfl ?_); refine box_event ?hg (N := 2) ?hd (cs := #[.int .i64 a0_0, .int .i64 a0_1, .string a0_2, .slice A0_3 l0_3.length c0_3]) (t := 34) ?hr ?_; (case hd => rfl); (case hg => rfl); (case hr => first | (go_simp; done) | (go_simp; rfl)); intro gb101 hg w15 hbox hb; have n0_ := qs hb; have n1_ := Aside0.mk (hbox); have n2_ := Aside0.mk ((by rw [hg]; exact (below_size qb) : w.heap.size ≤ gb101)); have n3_ := Aside0.mk ((by rw [hg]; exact (below_size qb) : w.heap.size ≤ gb101)); clear HB; have HB := n0_; have BK101 := n1_; have GW101 := n2_; have GE101 := n3_; clear n0_ n1_ n2_ n3_; clear hb hbox hg; obtain ⟨_, _, _, _, _, _, _, _⟩ := q4 BK101.out) | ((with_reducible refine gate_callee (f := 158) rfl ?_); refine goesL_ (some 9) rfl rfl Tryd.func158 (by kernel_rfl) rfl #[.int .i64 a0_0] rfl qm ?_; (with_reducible refine (malthouseref02_Line.calls k a0_0 t102 _ A3.out).mono ?_); rintro e w' ⟨rfl, ⟨nd, rfl⟩⟩; refine ⟨_, rfl, ?_⟩; have p103 : 0 ≤ (a1 : Int) := qa; have q103 : a1 < (l0_3.length : Int) := qa; obtain ⟨ad103, A103_3, c103_3, e103, hx103_0, hx103_1, hx103_2, hx103_3, hl103_3, hi103_3⟩ := at_T34 HR0_3.out a1 p103 q103; cases e103; replace hx103_0 := qc HB.out hx103_0; replace hx103_1 := qc HB.out hx103_1; replace hx103_2 := qc HB.out hx103_2; replace hx103_3 := qc HB.out hx103_3; have HR103_3 := Aside0.mk hi103_3; have HC103_3 := Aside0.mk hl103_3; clear hi103_3 hl103_3; replace p103 := eq_true p103; replace q103 := eq_true q103) | ((with_reducible refine gate_callee (f := 158) rfl ?_); refine goesL_ (some 16) rfl rfl Tryd.func158 (by kernel_rfl) rfl #[.int .i64 ((rd_T34 l0_3 a1).f0)] rfl qm ?_; (with_reducible refine (malthouseref02_Line.calls k ((rd_T34 l0_3 a1).f0) t104 _ A6.out).mono ?_); rintro e w' ⟨rfl, ⟨nd, rfl⟩⟩; refine ⟨_, rfl, ?_⟩))
     go_ret
     exact qr
    rw [if_neg c14] at H
    obtain ⟨c14b0, c14b1⟩ := qd c14
    obtain rfl := Option.some.inj H
    go_enter Tryd.func141, Tryd.ntmps141
    go_wp2_with (first | ((with_reducible refine gate_dst (N := 2) rfl ?_); refine box_event ?hg (N := 2) ?hd (cs := #[.int .i64 a0_0, .int .i64 a0_1, .string a0_2, .slice A0_3 l0_3.length c0_3]) (t := 34) ?hr ?_; (case hd => rfl); (case hg => rfl); (case hr => first | (go_simp; done) | (go_simp; rfl)); intro gb101 hg w17 hbox hb; have n0_ := qs hb; have n1_ := Aside0.mk (hbox); have n2_ := Aside0.mk ((by rw [hg]; exact (below_size qb) : w.heap.size ≤ gb101)); have n3_ := Aside0.mk ((by rw [hg]; exact (below_size qb) : w.heap.size ≤ gb101)); clear HB; have HB := n0_; have BK101 := n1_; have GW101 := n2_; have GE101 := n3_; clear n0_ n1_ n2_ n3_; clear hb hbox hg; obtain ⟨_, _, _, _, _, _, _, _⟩ := q4 BK101.out) | ((with_reducible refine gate_callee (f := 158) rfl ?_); refine goesL_ (some 9) rfl rfl Tryd.func158 (by kernel_rfl) rfl #[.int .i64 a0_0] rfl qm ?_; (with_reducible refine (malthouseref02_Line.calls k a0_0 t102 _ A3.out).mono ?_); rintro e w' ⟨rfl, ⟨nd, rfl⟩⟩; refine ⟨_, rfl, ?_⟩; have p103 : 0 ≤ (a1 : Int) := qa; have q103 : a1 < (l0_3.length : Int) := qa; obtain ⟨ad103, A103_3, c103_3, e103, hx103_0, hx103_1, hx103_2, hx103_3, hl103_3, hi103_3⟩ := at_T34 HR0_3.out a1 p103 q103; cases e103; replace hx103_0 := qc HB.out hx103_0; replace hx103_1 := qc HB.out hx103_1; replace hx103_2 := qc HB.out hx103_2; replace hx103_3 := qc HB.out hx103_3; have HR103_3 := Aside0.mk hi103_3; have HC103_3 := Aside0.mk hl103_3; clear hi103_3 hl103_3; replace p103 := eq_true p103; replace q103 := eq_true q103) | ((with_reducible refine gate_callee (f := 158) rfl ?_); refine goesL_ (some 16) rfl rfl Tryd.func158 (by kernel_rfl) rfl #[.int .i64 ((rd_T34 l0_3 a1).f0)] rfl qm ?_; (with_reducible refine (malthouseref02_Line.calls k ((rd_T34 l0_3 a1).f0) t104 _ A6.out).mono ?_); rintro e w' ⟨rfl, ⟨nd, rfl⟩⟩; refine ⟨_, rfl, ?_⟩))
    go_ret
    exact qr
   rw [if_neg c10] at H
   obtain ⟨c10b0, c10b1⟩ := qd c10
   obtain rfl := Option.some.inj H
   go_enter Tryd.func141, Tryd.ntmps141
   go_wp2_with (first | ((with_reducible refine gate_dst (N := 2) rfl ?_); refine box_event ?hg (N := 2) ?hd (cs := #[.int .i64 a0_0, .int .i64 a0_1, .string a0_2, .slice A0_3 l0_3.length c0_3]) (t := 34) ?hr ?_; (case hd => rfl); (case hg => rfl); (case hr => first | (go_simp; done) | (go_simp; rfl)); intro gb101 hg w19 hbox hb; have n0_ := qs hb; have n1_ := Aside0.mk (hbox); have n2_ := Aside0.mk ((by rw [hg]; exact (below_size qb) : w.heap.size ≤ gb101)); have n3_ := Aside0.mk ((by rw [hg]; exact (below_size qb) : w.heap.size ≤ gb101)); clear HB; have HB := n0_; have BK101 := n1_; have GW101 := n2_; have GE101 := n3_; clear n0_ n1_ n2_ n3_; clear hb hbox hg; obtain ⟨_, _, _, _, _, _, _, _⟩ := q4 BK101.out) | ((with_reducible refine gate_callee (f := 158) rfl ?_); refine goesL_ (some 9) rfl rfl Tryd.func158 (by kernel_rfl) rfl #[.int .i64 a0_0] rfl qm ?_; (with_reducible refine (malthouseref02_Line.calls k a0_0 t102 _ A3.out).mono ?_); rintro e w' ⟨rfl, ⟨nd, rfl⟩⟩; refine ⟨_, rfl, ?_⟩; have p103 : 0 ≤ (a1 : Int) := qa; have q103 : a1 < (l0_3.length : Int) := qa; obtain ⟨ad103, A103_3, c103_3, e103, hx103_0, hx103_1, hx103_2, hx103_3, hl103_3, hi103_3⟩ := at_T34 HR0_3.out a1 p103 q103; cases e103; replace hx103_0 := qc HB.out hx103_0; replace hx103_1 := qc HB.out hx103_1; replace hx103_2 := qc HB.out hx103_2; replace hx103_3 := qc HB.out hx103_3; have HR103_3 := Aside0.mk hi103_3; have HC103_3 := Aside0.mk hl103_3; clear hi103_3 hl103_3; replace p103 := eq_true p103; replace q103 := eq_true q103) | ((with_reducible refine gate_callee (f := 158) rfl ?_); refine goesL_ (some 16) rfl rfl Tryd.func158 (by kernel_rfl) rfl #[.int .i64 ((rd_T34 l0_3 a1).f0)] rfl qm ?_; (with_reducible refine (malthouseref02_Line.calls k ((rd_T34 l0_3 a1).f0) t104 _ A6.out).mono ?_); rintro e w' ⟨rfl, ⟨nd, rfl⟩⟩; refine ⟨_, rfl, ?_⟩))
   go_ret
   exact qr
  rw [if_neg c5] at H
  exact absurd H (by simp)
 rw [if_neg c4] at H
 exact absurd H (by simp)
end Go.Proofs.YtiaccdaeomaogaaDoor.F
