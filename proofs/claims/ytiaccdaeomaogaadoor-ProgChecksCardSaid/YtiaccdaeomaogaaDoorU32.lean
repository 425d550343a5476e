/- Texts of one claim, slimmed and merged by slim.py. -/
import Derived.Test.YtiaccdaeomaogaaDoorU4
import Derived.Test.YtiaccdaeomaogaaDoorU26
import Derived.Test.YtiaccdaeomaogaaDoorU29
import Derived.Test.YtiaccdaeomaogaaDoorU30
import Derived.Test.YtiaccdaeomaogaaDoorU31
namespace Go.Proofs.YtiaccdaeomaogaaDoor.F
open Go.RowKit Go.Proofs.YtiaccdaeomaogaaDoorW.PrintWords Go.Proofs.YtiaccdaeomaogaaDoorW.PrintLast Go.Proofs.YtiaccdaeomaogaaDoorW.PrintMore
attribute [local go_sem] max2_int min2_int max_two min_two max_three min_three max_four min_four   -- for this text's walks alone
set_option linter.unusedVariables false
set_option linter.unusedSimpArgs false
mutual
def malthouseref11_Check.l0 : Nat → List (S67) → List ByteArray → List ByteArray → List ByteArray → Int → Option (Int)
  | 0, _, _, _, _, _ => none
  | k + 1, x0, x1, x2, x3, x9 => if x9 < (x0.length : Int) then (if 0 ≤ x9 then ((malthouseref11_form.f k ((rd_T67 x0 x9).f0) ((rd_T67 x0 x9).f1) ((rd_T67 x0 x9).f2) ((rd_T67 x0 x9).f3.f0) ((rd_T67 x0 x9).f3.f1) ((rd_T67 x0 x9).f3.f2) ((rd_T67 x0 x9).f3.f3) ((rd_T67 x0 x9).f4)).bind fun t102 => (if t102 = true then ((malthouseref11_named.f k ((rd_T67 x0 x9).f0) ((rd_T67 x0 x9).f1) ((rd_T67 x0 x9).f2) ((rd_T67 x0 x9).f3.f0) ((rd_T67 x0 x9).f3.f1) ((rd_T67 x0 x9).f3.f2) ((rd_T67 x0 x9).f3.f3) ((rd_T67 x0 x9).f4) (x0.length : Int) x1 x2).bind fun t104 => (if t104 = 0 then ((malthouseref11_reckons.f ((rd_T67 x0 x9).f0)).bind fun t106 => ((malthouseref02_May.f k ((rd_T67 x0 x9).f3.f0) ((rd_T67 x0 x9).f3.f1) ((rd_T67 x0 x9).f3.f2) ((rd_T67 x0 x9).f3.f3)).bind fun t108 => (if t106 = true then (malthouseref11_Check.j1 k x0 x1 x2 x3 x9 t106 (!t108)) else (malthouseref11_Check.j1 k x0 x1 x2 x3 x9 t106 false)))) else (some t104))) else (some 1))) else (none)) else (some 0)
def malthouseref11_Check.j1 : Nat → List (S67) → List ByteArray → List ByteArray → List ByteArray → Int → Bool → Bool → Option (Int)
  | 0, _, _, _, _, _, _, _ => none
  | k + 1, x0, x1, x2, x3, x9, x12, x60 => if x60 = true then (some 1) else (if 0 ≤ x9 then (if x9 < (x0.length : Int) then ((malthouseref02_Names.f k ((rd_T67 x0 x9).f3.f0) ((rd_T67 x0 x9).f3.f1) ((rd_T67 x0 x9).f3.f2) ((rd_T67 x0 x9).f3.f3)).bind fun t110 => (malthouseref11_Check.l1 k x0 x1 x2 x3 x9 x12 t110 0)) else (none)) else (none))
def malthouseref11_Check.l1 : Nat → List (S67) → List ByteArray → List ByteArray → List ByteArray → Int → Bool → List ByteArray → Int → Option (Int)
  | 0, _, _, _, _, _, _, _, _ => none
  | k + 1, x0, x1, x2, x3, x9, x12, x14, x15 => if x15 < (x14.length : Int) then (malthouseref11_Check.j3 k x0 x1 x2 x3 x9 x12 x14 x15 x12) else (malthouseref11_Check.j3 k x0 x1 x2 x3 x9 x12 x14 x15 false)
def malthouseref11_Check.j3 : Nat → List (S67) → List ByteArray → List ByteArray → List ByteArray → Int → Bool → List ByteArray → Int → Bool → Option (Int)
  | 0, _, _, _, _, _, _, _, _, _ => none
  | k + 1, x0, x1, x2, x3, x9, x12, x14, x15, x73 => if x73 = true then (if 0 ≤ x15 then (if x15 < (x14.length : Int) then ((malthouseref11_is.f k x3 (rdOf ByteArray.empty x14 x15)).bind fun t114 => (if t114 = true then (malthouseref11_Check.l1 k x0 x1 x2 x3 x9 x12 x14 (wrap64 (x15 + 1))) else (some 4))) else (none)) else (none)) else (malthouseref11_Check.l0 k x0 x1 x2 x3 (wrap64 (x9 + 1)))
end
def malthouseref11_Check.f (k : Nat) (l0 : List (S67)) (l1 : List ByteArray) (l2 : List ByteArray) (l3 : List ByteArray) : Option (Int) := if (l0.length : Int) > 16 then (some 2) else (malthouseref11_Check.l0 k l0 l1 l2 l3 0)
set_option maxHeartbeats 8000000 in
set_option maxRecDepth 100000 in
theorem malthouseref11_Check.calls (k : Nat) (A0 : Option Addr) (c0 : Nat) (l0 : List (S67)) (A1 : Option Addr) (c1 : Nat) (l1 : List ByteArray) (A2 : Option Addr) (c2 : Nat) (l2 : List ByteArray) (A3 : Option Addr) (c3 : Nat) (l3 : List ByteArray) (r : Int) (w : World) (hr0 : Kd.C k67 w A0 l0.length l0) (hc0 : l0.length ≤ c0) (hr1 : Kd.C Kd.string w A1 l1.length l1) (hc1 : l1.length ≤ c1) (hr2 : Kd.C Kd.string w A2 l2.length l2) (hc2 : l2.length ≤ c2) (hr3 : Kd.C Kd.string w A3 l3.length l3) (hc3 : l3.length ≤ c3) (h : malthouseref11_Check.f k l0 l1 l2 l3 = some r) :
  Calls Tryd.prog 45 #[.slice A0 l0.length c0, .slice A1 l1.length c1, .slice A2 l2.length c2, .slice A3 l3.length c3] w fun e w' => e = .returned (.int .i64 r) ∧ Below w.heap.size w w' := by
 have hu67 := Tryd.underlying67
 have hu34 := Tryd.underlying34
 have HR0 := Aside0.mk hr0
 have HC0 := Aside0.mk hc0
 clear hr0 hc0
 have HR1 := Aside0.mk hr1
 have HC1 := Aside0.mk hc1
 clear hr1 hc1
 have HR2 := Aside0.mk hr2
 have HC2 := Aside0.mk hc2
 clear hr2 hc2
 have HR3 := Aside0.mk hr3
 have HC3 := Aside0.mk hc3
 clear hr3 hc3
 have HB := Aside0.mk (Below.refl w.heap.size w)
 have H : (if (l0.length : Int) > 16 then (some 2) else (malthouseref11_Check.l0 k l0 l1 l2 l3 0)) = some r := h
 clear h
 by_cases c5 : (l0.length : Int) > 16
 ·rw [if_pos c5] at H
  have c5b0 : decide (16 < (l0.length : Int)) = true := decide_eq_true c5
  have c5b1 : decide (16 < l0.length) = true := decide_eq_true (by omega)
  clear c5
  obtain rfl := Option.some.inj H
  go_enter Tryd.func45, Tryd.ntmps45
  go_wp2
  go_ret
  exact qr
 rw [if_neg c5] at H
 have c5b0 : decide (16 < (l0.length : Int)) = false := decide_eq_false c5
 have c5b1 : decide (16 < l0.length) = false := decide_eq_false (by omega)
 clear c5
 have H' := Aside0.mk H
 clear H
 go_enter Tryd.func45, Tryd.ntmps45
 go_wp2
 go_loopg [9] k (fun kq v9 w' => ∃ (x9_1 : Int), v9 = .int .i64 x9_1 ∧ Aside0 (malthouseref11_Check.l0 kq l0 l1 l2 l3 x9_1 = some r) ∧ Aside0 (kq ≤ k) ∧ Aside0 (Below w.heap.size w w'))
 case atStart => exact ⟨(0), qv, H', ⟨Nat.le_refl _⟩, qB⟩
 case round =>
  clear H'
  obtain ⟨x9_1, rfl, HA, HK1, HB⟩ := hrel
  cases gk with
  | zero => exact absurd HA.out (by simp [malthouseref11_Check.l0])
  | succ k1 =>
   have H := HA.out
   clear HA
   simp only [malthouseref11_Check.l0] at H
   by_cases c6 : x9_1 < (l0.length : Int)
   ·rw [if_pos c6] at H
    have c6b0 : decide (x9_1 < (l0.length : Int)) = true := decide_eq_true c6
    clear c6
    by_cases c7 : 0 ≤ x9_1
    ·rw [if_pos c7] at H
     have c7b0 : decide (0 ≤ x9_1) = true := decide_eq_true c7
     clear c7
     replace H := qi H
     obtain ⟨t102, A8, H⟩ := H
     by_cases c9 : t102 = true
     ·subst c9
      rw [if_pos rfl] at H
      replace H := qi H
      obtain ⟨t104, A10, H⟩ := H
      by_cases c11 : t104 = 0
      ·rw [if_pos c11] at H
       obtain ⟨c11b0, c11b1⟩ := qe c11
       clear c11
       replace H := qi H
       obtain ⟨t106, A12, H⟩ := H
       replace H := qi H
       obtain ⟨t108, A13, H⟩ := H
       have HC14 := Aside0.mk H
       clear H
       have p101 : 0 ≤ (x9_1 : Int) := qa
       have q101 : x9_1 < (l0.length : Int) := qa
       obtain ⟨ad101, A101_6, c101_6, e101, hx101_0, hx101_1, hx101_2, hx101_3, hx101_4, hx101_5, hx101_6, hx101_7, hl101_6, hi101_6⟩ := at_T67 HR0.out x9_1 p101 q101
       cases e101
       replace hx101_0 := qc HB.out hx101_0
       replace hx101_1 := qc HB.out hx101_1
       replace hx101_2 := qc HB.out hx101_2
       replace hx101_3 := qc HB.out hx101_3
       replace hx101_4 := qc HB.out hx101_4
       replace hx101_5 := qc HB.out hx101_5
       replace hx101_6 := qc HB.out hx101_6
       replace hx101_7 := qc HB.out hx101_7
       have HR101_6 := Aside0.mk hi101_6
       have HC101_6 := Aside0.mk hl101_6
       clear hi101_6 hl101_6
       replace p101 := eq_true p101
       replace q101 := eq_true q101
       go_upto_region 14 with (first | ((with_reducible refine gate_callee (f := 74) rfl ?_); refine goesL_ (some 29) rfl rfl Tryd.func74 (by kernel_rfl) rfl #[.agg #[.int .i64 ((rd_T67 l0 x9_1).f0), .string ((rd_T67 l0 x9_1).f1), .string ((rd_T67 l0 x9_1).f2), .int .i64 ((rd_T67 l0 x9_1).f3.f0), .int .i64 ((rd_T67 l0 x9_1).f3.f1), .string ((rd_T67 l0 x9_1).f3.f2), .slice A101_6 ((rd_T67 l0 x9_1).f3.f3).length c101_6, .int .i64 ((rd_T67 l0 x9_1).f4)]] rfl qm ?_; (with_reducible refine (malthouseref11_form.calls k1 ((rd_T67 l0 x9_1).f0) ((rd_T67 l0 x9_1).f1) ((rd_T67 l0 x9_1).f2) ((rd_T67 l0 x9_1).f3.f0) ((rd_T67 l0 x9_1).f3.f1) ((rd_T67 l0 x9_1).f3.f2) _ _ ((rd_T67 l0 x9_1).f3.f3) ((rd_T67 l0 x9_1).f4) true _ ?side1 ?side2 A8.out).mono ?_); (case side1 => exact qC HR101_6.out); (case side2 => exact HC101_6.out); rintro e w15 ⟨rfl, hb⟩; refine ⟨_, rfl, ?_⟩; have n0_ := qs hb; clear HB; have HB := n0_; clear n0_; (try clear hb); have p103 : 0 ≤ (x9_1 : Int) := qa; have q103 : x9_1 < (l0.length : Int) := qa; obtain ⟨ad103, A103_6, c103_6, e103, hx103_0, hx103_1, hx103_2, hx103_3, hx103_4, hx103_5, hx103_6, hx103_7, hl103_6, hi103_6⟩ := at_T67 HR0.out x9_1 p103 q103; obtain rfl : ad101 = ad103 := (by injection e103); replace hx103_0 := qc HB.out hx103_0; replace hx103_1 := qc HB.out hx103_1; replace hx103_2 := qc HB.out hx103_2; replace hx103_3 := qc HB.out hx103_3; replace hx103_4 := qc HB.out hx103_4; replace hx103_5 := qc HB.out hx103_5; replace hx103_6 := qc HB.out hx103_6; replace hx103_7 := qc HB.out hx103_7; have HR103_6 := Aside0.mk hi103_6; have HC103_6 := Aside0.mk hl103_6; clear hi103_6 hl103_6; replace p103 := eq_true p103; replace q103 := eq_true q103) | ((with_reducible refine gate_callee (f := 75) rfl ?_); refine goesL_ (some 40) rfl rfl Tryd.func75 (by kernel_rfl) rfl #[.agg #[.int .i64 ((rd_T67 l0 x9_1).f0), .string ((rd_T67 l0 x9_1).f1), .string ((rd_T67 l0 x9_1).f2), .int .i64 ((rd_T67 l0 x9_1).f3.f0), .int .i64 ((rd_T67 l0 x9_1).f3.f1), .string ((rd_T67 l0 x9_1).f3.f2), .slice A103_6 ((rd_T67 l0 x9_1).f3.f3).length c103_6, .int .i64 ((rd_T67 l0 x9_1).f4)], .int .i64 (l0.length : Int), .slice A1 l1.length c1, .slice A2 l2.length c2] rfl qm ?_; (with_reducible refine (malthouseref11_named.calls k1 ((rd_T67 l0 x9_1).f0) ((rd_T67 l0 x9_1).f1) ((rd_T67 l0 x9_1).f2) ((rd_T67 l0 x9_1).f3.f0) ((rd_T67 l0 x9_1).f3.f1) ((rd_T67 l0 x9_1).f3.f2) _ _ ((rd_T67 l0 x9_1).f3.f3) ((rd_T67 l0 x9_1).f4) (l0.length : Int) _ _ l1 _ _ l2 t104 _ ?side1 ?side2 ?side3 ?side4 ?side5 ?side6 A10.out).mono ?_); (case side1 => exact qC HR103_6.out); (case side2 => exact HC103_6.out); (case side3 => exact qC HR1.out); (case side4 => exact HC1.out); (case side5 => exact qC HR2.out); (case side6 => exact HC2.out); rintro e w16 ⟨rfl, hb⟩; refine ⟨_, rfl, ?_⟩; have n0_ := qs hb; clear HB; have HB := n0_; clear n0_; (try clear hb); have p105 : 0 ≤ (x9_1 : Int) := qa; have q105 : x9_1 < (l0.length : Int) := qa; obtain ⟨ad105, A105_6, c105_6, e105, hx105_0, hx105_1, hx105_2, hx105_3, hx105_4, hx105_5, hx105_6, hx105_7, hl105_6, hi105_6⟩ := at_T67 HR0.out x9_1 p105 q105; obtain rfl : ad101 = ad105 := (by injection e105); replace hx105_0 := qc HB.out hx105_0; replace hx105_1 := qc HB.out hx105_1; replace hx105_2 := qc HB.out hx105_2; replace hx105_3 := qc HB.out hx105_3; replace hx105_4 := qc HB.out hx105_4; replace hx105_5 := qc HB.out hx105_5; replace hx105_6 := qc HB.out hx105_6; replace hx105_7 := qc HB.out hx105_7; have HR105_6 := Aside0.mk hi105_6; have HC105_6 := Aside0.mk hl105_6; clear hi105_6 hl105_6; replace p105 := eq_true p105; replace q105 := eq_true q105) | ((with_reducible refine gate_callee (f := 71) rfl ?_); refine goesL_ (some 49) rfl rfl Tryd.func71 (by kernel_rfl) rfl #[.int .i64 ((rd_T67 l0 x9_1).f0)] rfl qm ?_; (with_reducible refine (malthouseref11_reckons.calls ((rd_T67 l0 x9_1).f0) t106 _ A12.out).mono ?_); rintro e w' ⟨rfl, ⟨nd, rfl⟩⟩; refine ⟨_, rfl, ?_⟩; have p107 : 0 ≤ (x9_1 : Int) := qa; have q107 : x9_1 < (l0.length : Int) := qa; obtain ⟨ad107, A107_6, c107_6, e107, hx107_0, hx107_1, hx107_2, hx107_3, hx107_4, hx107_5, hx107_6, hx107_7, hl107_6, hi107_6⟩ := at_T67 HR0.out x9_1 p107 q107; obtain rfl : ad101 = ad107 := (by injection e107); replace hx107_0 := qc HB.out hx107_0; replace hx107_1 := qc HB.out hx107_1; replace hx107_2 := qc HB.out hx107_2; replace hx107_3 := qc HB.out hx107_3; replace hx107_4 := qc HB.out hx107_4; replace hx107_5 := qc HB.out hx107_5; replace hx107_6 := qc HB.out hx107_6; replace hx107_7 := qc HB.out hx107_7; have HR107_6 := Aside0.mk hi107_6; have HC107_6 := Aside0.mk hl107_6; clear hi107_6 hl107_6; replace p107 := eq_true p107; replace q107 := eq_true q107; have ea_ := Option.some.inj (hx105_6.symm.trans hx107_6); injection ea_ with ea_ en_ ec_; subst ea_; subst ec_; clear en_) | ((with_reducible refine gate_callee (f := 76) rfl ?_); refine goesL_ (some 55) rfl rfl Tryd.func76 (by kernel_rfl) rfl #[.agg #[.int .i64 ((rd_T67 l0 x9_1).f3.f0), .int .i64 ((rd_T67 l0 x9_1).f3.f1), .string ((rd_T67 l0 x9_1).f3.f2), .slice A105_6 ((rd_T67 l0 x9_1).f3.f3).length c105_6]] rfl qm ?_; (with_reducible refine (malthouseref02_May.calls k1 ((rd_T67 l0 x9_1).f3.f0) ((rd_T67 l0 x9_1).f3.f1) ((rd_T67 l0 x9_1).f3.f2) _ _ ((rd_T67 l0 x9_1).f3.f3) t108 _ ?side1 ?side2 A13.out).mono ?_); (case side1 => repeat (first | exact (Kd.C_below HR107_6.out qb) | (with_reducible refine Kd.C_alloc ?_ _) | (with_reducible refine Kd.C_drewN ?_ _) | (with_reducible refine Kd.C_drew ?_))); (case side2 => exact HC107_6.out); rintro e w17 ⟨rfl, hb⟩; refine ⟨_, rfl, ?_⟩; have n0_ := qs hb; clear HB; have HB := n0_; clear n0_; (try clear hb)))
       (try simp only [Act.put, List.setIfInBounds_toArray, List.set_cons_zero, List.set_cons_succ])
       go_cut [60] (fun v60 wc => ∃ (kq : Nat) (x60_13 : Bool), v60 = .bool x60_13 ∧ Aside0 (malthouseref11_Check.j1 kq l0 l1 l2 l3 x9_1 t106 x60_13 = some r) ∧ Aside0 (kq ≤ k1) ∧ Aside0 (Below w.heap.size w wc))
       case first =>
        have H := HC14.out
        clear HC14
        by_cases c18 : t106 = true
        ·subst c18
         rw [if_pos rfl] at H
         have H' := Aside0.mk H
         clear H
         go_wp2
         go_meet
         case rel => exact ⟨_, (!t108), qv, H', ⟨by have := HK1.out; first | omega | exact Nat.le_refl _⟩, qB⟩
        replace c18 := Bool.eq_false_iff.mpr c18
        subst c18
        rw [if_neg qf] at H
        have H' := Aside0.mk H
        clear H
        go_wp2
        go_meet
        case rel => exact ⟨_, (false), qv, H', ⟨by have := HK1.out; first | omega | exact Nat.le_refl _⟩, qB⟩
       clear HC14
       obtain ⟨kq, x60_13, rfl, HA, HJ13, HB⟩ := hcut
       cases kq with
       | zero => exact absurd HA.out (by simp [malthouseref11_Check.j1])
       | succ kj13 =>
        have H := HA.out
        clear HA
        simp only [malthouseref11_Check.j1] at H
        by_cases c19 : x60_13 = true
        ·subst c19
         rw [if_pos rfl] at H
         obtain rfl := Option.some.inj H
         go_wp2
         go_ret
         exact qr
        replace c19 := Bool.eq_false_iff.mpr c19
        subst c19
        rw [if_neg qf] at H
        by_cases c20 : 0 ≤ x9_1
        ·rw [if_pos c20] at H
         have c20b0 : decide (0 ≤ x9_1) = true := decide_eq_true c20
         clear c20
         by_cases c21 : x9_1 < (l0.length : Int)
         ·rw [if_pos c21] at H
          have c21b0 : decide (x9_1 < (l0.length : Int)) = true := decide_eq_true c21
          clear c21
          replace H := qi H
          obtain ⟨t110, A22, H⟩ := H
          have H' := Aside0.mk H
          clear H
          have p109 : 0 ≤ (x9_1 : Int) := qa
          have q109 : x9_1 < (l0.length : Int) := qa
          obtain ⟨ad109, A109_6, c109_6, e109, hx109_0, hx109_1, hx109_2, hx109_3, hx109_4, hx109_5, hx109_6, hx109_7, hl109_6, hi109_6⟩ := at_T67 HR0.out x9_1 p109 q109
          obtain rfl : ad101 = ad109 := (by injection e109)
          replace hx109_0 := qc HB.out hx109_0
          replace hx109_1 := qc HB.out hx109_1
          replace hx109_2 := qc HB.out hx109_2
          replace hx109_3 := qc HB.out hx109_3
          replace hx109_4 := qc HB.out hx109_4
          replace hx109_5 := qc HB.out hx109_5
          replace hx109_6 := qc HB.out hx109_6
          replace hx109_7 := qc HB.out hx109_7
          have HR109_6 := Aside0.mk hi109_6
          have HC109_6 := Aside0.mk hl109_6
          clear hi109_6 hl109_6
          replace p109 := eq_true p109
          replace q109 := eq_true q109
          go_wp2_with (first | ((with_reducible refine gate_callee (f := 77) rfl ?_); refine goesL_ (some 66) rfl rfl Tryd.func77 (by kernel_rfl) rfl #[.agg #[.int .i64 ((rd_T67 l0 x9_1).f3.f0), .int .i64 ((rd_T67 l0 x9_1).f3.f1), .string ((rd_T67 l0 x9_1).f3.f2), .slice A109_6 ((rd_T67 l0 x9_1).f3.f3).length c109_6]] rfl qm ?_; (with_reducible refine (malthouseref02_Names.calls kj13 ((rd_T67 l0 x9_1).f3.f0) ((rd_T67 l0 x9_1).f3.f1) ((rd_T67 l0 x9_1).f3.f2) _ _ ((rd_T67 l0 x9_1).f3.f3) t110 _ ?side1 ?side2 A22.out).mono ?_); (case side1 => exact qC HR109_6.out); (case side2 => exact HC109_6.out); rintro e w23 ⟨v111, rfl, ho0, hb⟩; refine ⟨_, rfl, ?_⟩; have n0_ := Aside0.mk (Kd.V_lower (Kd.V_mono (ok' := fun k_ => True) ho0 (fun k_ hk_ => trivial)) (below_size qb)); have n1_ := qs hb; clear HB; have HO112 := n0_; have HB := n1_; clear n0_ n1_; (try clear hb); (try clear ho0)))
          go_loopg [15] kj13 (fun kq v15 w' => ∃ (x15_3 : Int), v15 = .int .i64 x15_3 ∧ Aside0 (malthouseref11_Check.l1 kq l0 l1 l2 l3 x9_1 t106 t110 x15_3 = some r) ∧ Aside0 (kq ≤ kj13) ∧ Aside0 (Kd.V Kd.string 9 w' w.heap.size (fun _ => True) v111 t110) ∧ Aside0 (Below w.heap.size w w'))
          case atStart => exact ⟨(0), qv, H', ⟨Nat.le_refl _⟩, ⟨by (with_reducible repeat (first | apply Kd.V_alloc | apply Kd.V_drewN | apply Kd.V_drew)); exact HO112.out⟩, qB⟩
          case round =>
           clear H'
           obtain ⟨x15_3, rfl, HA, HK3, HO_14, HB⟩ := hrel
           cases gk with
           | zero => exact absurd HA.out (by simp [malthouseref11_Check.l1])
           | succ k3 =>
            have H := HA.out
            clear HA
            simp only [malthouseref11_Check.l1] at H
            have HC24 := Aside0.mk H
            clear H
            go_upto_region 18 with (fail)
            go_cut [73] (fun v73 wc => ∃ (kq : Nat) (x73_23 : Bool), v73 = .bool x73_23 ∧ Aside0 (malthouseref11_Check.j3 kq l0 l1 l2 l3 x9_1 t106 t110 x15_3 x73_23 = some r) ∧ Aside0 (kq ≤ k3) ∧ Aside0 (Kd.V Kd.string 9 wc w.heap.size (fun _ => True) v111 t110) ∧ Aside0 (Below w.heap.size w wc))
            case first =>
             have H := HC24.out
             clear HC24
             by_cases c25 : x15_3 < (t110.length : Int)
             ·rw [if_pos c25] at H
              have c25b0 : decide (x15_3 < (t110.length : Int)) = true := decide_eq_true c25
              clear c25
              (first | rw [c25b0] | (simp only [i64_w, i32_w]; rw [c25b0]) | skip)
              have H' := Aside0.mk H
              clear H
              obtain ⟨Ao26, co26, eo26⟩ := Kd.V_slice HO_14.out
              subst eo26
              go_wp2
              go_meet
              case rel => exact ⟨_, (t106), qv, H', ⟨by have := HK1.out; have := HJ13.out; have := HK3.out; first | omega | exact Nat.le_refl _⟩, ⟨by (with_reducible repeat (first | apply Kd.V_alloc | apply Kd.V_drewN | apply Kd.V_drew)); exact HO_14.out⟩, qB⟩
             rw [if_neg c25] at H
             have c25b0 : decide (x15_3 < (t110.length : Int)) = false := decide_eq_false c25
             clear c25
             (first | rw [c25b0] | (simp only [i64_w, i32_w]; rw [c25b0]) | skip)
             have H' := Aside0.mk H
             clear H
             obtain ⟨Ao27, co27, eo27⟩ := Kd.V_slice HO_14.out
             subst eo27
             go_wp2
             go_meet
             case rel => exact ⟨_, (false), qv, H', ⟨by have := HK1.out; have := HJ13.out; have := HK3.out; first | omega | exact Nat.le_refl _⟩, ⟨by (with_reducible repeat (first | apply Kd.V_alloc | apply Kd.V_drewN | apply Kd.V_drew)); exact HO_14.out⟩, qB⟩
            clear HC24
            obtain ⟨kq, x73_23, rfl, HA, HJ23, HO_14, HB⟩ := hcut
            cases kq with
            | zero => exact absurd HA.out (by simp [malthouseref11_Check.j3])
            | succ kj23 =>
             have H := HA.out
             clear HA
             simp only [malthouseref11_Check.j3] at H
             by_cases c28 : x73_23 = true
             ·subst c28
              rw [if_pos rfl] at H
              by_cases c29 : 0 ≤ x15_3
              ·rw [if_pos c29] at H
               have c29b0 : decide (0 ≤ x15_3) = true := decide_eq_true c29
               clear c29
               by_cases c30 : x15_3 < (t110.length : Int)
               ·rw [if_pos c30] at H
                have c30b0 : decide (x15_3 < (t110.length : Int)) = true := decide_eq_true c30
                clear c30
                replace H := qi H
                obtain ⟨t114, A31, H⟩ := H
                by_cases c32 : t114 = true
                ·subst c32
                 rw [if_pos rfl] at H
                 have H' := Aside0.mk H
                 clear H
                 obtain ⟨Ao33, co33, eo33⟩ := Kd.V_slice HO_14.out
                 subst eo33
                 have p113 : 0 ≤ (x15_3 : Int) := qa
                 have q113 : x15_3 < (t110.length : Int) := qa
                 obtain ⟨ad113, e113, hx113_0⟩ := Kd.at_string (Kd.V_reads' HO_14.out).2.2 x15_3 p113 q113
                 cases e113
                 replace p113 := eq_true p113
                 replace q113 := eq_true q113
                 go_wp2_with (first | ((with_reducible refine gate_callee (f := 78) rfl ?_); refine goesL_ (some 81) rfl rfl Tryd.func78 (by kernel_rfl) rfl #[.slice A3 l3.length c3, .string (rdOf ByteArray.empty t110 x15_3)] rfl qm ?_; (with_reducible refine (malthouseref11_is.calls kj23 _ _ l3 (rdOf ByteArray.empty t110 x15_3) true _ ?side1 ?side2 A31.out).mono ?_); (case side1 => exact qC HR3.out); (case side2 => exact HC3.out); rintro e w' ⟨rfl, ⟨nd, rfl⟩⟩; refine ⟨_, rfl, ?_⟩))
                 go_roundg kj23
                 case measure => have := HK1.out; have := HJ13.out; have := HK3.out; have := HJ23.out; omega
                 case rel => exact ⟨(wrap64 (x15_3 + 1)), qv, H', ⟨by have := HK1.out; have := HJ13.out; have := HK3.out; have := HJ23.out; omega⟩, ⟨by (with_reducible repeat (first | apply Kd.V_alloc | apply Kd.V_drewN | apply Kd.V_drew)); exact HO_14.out⟩, qB⟩
                replace c32 := Bool.eq_false_iff.mpr c32
                subst c32
                rw [if_neg qf] at H
                obtain rfl := Option.some.inj H
                obtain ⟨Ao34, co34, eo34⟩ := Kd.V_slice HO_14.out
                subst eo34
                have p113 : 0 ≤ (x15_3 : Int) := qa
                have q113 : x15_3 < (t110.length : Int) := qa
                obtain ⟨ad113, e113, hx113_0⟩ := Kd.at_string (Kd.V_reads' HO_14.out).2.2 x15_3 p113 q113
                cases e113
                replace p113 := eq_true p113
                replace q113 := eq_true q113
                go_wp2_with (first | ((with_reducible refine gate_callee (f := 78) rfl ?_); refine goesL_ (some 81) rfl rfl Tryd.func78 (by kernel_rfl) rfl #[.slice A3 l3.length c3, .string (rdOf ByteArray.empty t110 x15_3)] rfl qm ?_; (with_reducible refine (malthouseref11_is.calls kj23 _ _ l3 (rdOf ByteArray.empty t110 x15_3) false _ ?side1 ?side2 A31.out).mono ?_); (case side1 => exact qC HR3.out); (case side2 => exact HC3.out); rintro e w' ⟨rfl, ⟨nd, rfl⟩⟩; refine ⟨_, rfl, ?_⟩))
                go_ret
                exact qr
               rw [if_neg c30] at H
               exact absurd H (by simp)
              rw [if_neg c29] at H
              exact absurd H (by simp)
             replace c28 := Bool.eq_false_iff.mpr c28
             subst c28
             rw [if_neg qf] at H
             have H' := Aside0.mk H
             clear H
             go_wp2
             go_roundg kj23
             case measure => have := HK1.out; have := HJ13.out; have := HK3.out; have := HJ23.out; omega
             case rel => exact ⟨(wrap64 (x9_1 + 1)), qv, H', ⟨by have := HK1.out; have := HJ13.out; have := HK3.out; have := HJ23.out; omega⟩, qB⟩
         rw [if_neg c21] at H
         exact absurd H (by simp)
        rw [if_neg c20] at H
        exact absurd H (by simp)
      rw [if_neg c11] at H
      obtain ⟨c11b0, c11b1⟩ := qd c11
      obtain rfl := Option.some.inj H
      have p101 : 0 ≤ (x9_1 : Int) := qa
      have q101 : x9_1 < (l0.length : Int) := qa
      obtain ⟨ad101, A101_6, c101_6, e101, hx101_0, hx101_1, hx101_2, hx101_3, hx101_4, hx101_5, hx101_6, hx101_7, hl101_6, hi101_6⟩ := at_T67 HR0.out x9_1 p101 q101
      cases e101
      replace hx101_0 := qc HB.out hx101_0
      replace hx101_1 := qc HB.out hx101_1
      replace hx101_2 := qc HB.out hx101_2
      replace hx101_3 := qc HB.out hx101_3
      replace hx101_4 := qc HB.out hx101_4
      replace hx101_5 := qc HB.out hx101_5
      replace hx101_6 := qc HB.out hx101_6
      replace hx101_7 := qc HB.out hx101_7
      have HR101_6 := Aside0.mk hi101_6
      have HC101_6 := Aside0.mk hl101_6
      clear hi101_6 hl101_6
      replace p101 := eq_true p101
      replace q101 := eq_true q101
      go_wp2_with (first | ((with_reducible refine gate_callee (f := 74) rfl ?_); refine goesL_ (some 29) rfl rfl Tryd.func74 (by kernel_rfl) rfl #[.agg #[.int .i64 ((rd_T67 l0 x9_1).f0), .string ((rd_T67 l0 x9_1).f1), .string ((rd_T67 l0 x9_1).f2), .int .i64 ((rd_T67 l0 x9_1).f3.f0), .int .i64 ((rd_T67 l0 x9_1).f3.f1), .string ((rd_T67 l0 x9_1).f3.f2), .slice A101_6 ((rd_T67 l0 x9_1).f3.f3).length c101_6, .int .i64 ((rd_T67 l0 x9_1).f4)]] rfl qm ?_; (with_reducible refine (malthouseref11_form.calls k1 ((rd_T67 l0 x9_1).f0) ((rd_T67 l0 x9_1).f1) ((rd_T67 l0 x9_1).f2) ((rd_T67 l0 x9_1).f3.f0) ((rd_T67 l0 x9_1).f3.f1) ((rd_T67 l0 x9_1).f3.f2) _ _ ((rd_T67 l0 x9_1).f3.f3) ((rd_T67 l0 x9_1).f4) true _ ?side1 ?side2 A8.out).mono ?_); (case side1 => exact qC HR101_6.out); (case side2 => exact HC101_6.out); rintro e w35 ⟨rfl, hb⟩; refine ⟨_, rfl, ?_⟩; have n0_ := qs hb; clear HB; have HB := n0_; clear n0_; (try clear hb); have p103 : 0 ≤ (x9_1 : Int) := qa; have q103 : x9_1 < (l0.length : Int) := qa; obtain ⟨ad103, A103_6, c103_6, e103, hx103_0, hx103_1, hx103_2, hx103_3, hx103_4, hx103_5, hx103_6, hx103_7, hl103_6, hi103_6⟩ := at_T67 HR0.out x9_1 p103 q103; obtain rfl : ad101 = ad103 := (by injection e103); replace hx103_0 := qc HB.out hx103_0; replace hx103_1 := qc HB.out hx103_1; replace hx103_2 := qc HB.out hx103_2; replace hx103_3 := qc HB.out hx103_3; replace hx103_4 := qc HB.out hx103_4; replace hx103_5 := qc HB.out hx103_5; replace hx103_6 := qc HB.out hx103_6; replace hx103_7 := qc HB.out hx103_7; have HR103_6 := Aside0.mk hi103_6; have HC103_6 := Aside0.mk hl103_6; clear hi103_6 hl103_6; replace p103 := eq_true p103; replace q103 := eq_true q103) | ((with_reducible refine gate_callee (f := 75) rfl ?_); refine goesL_ (some 40) rfl rfl Tryd.func75 (by kernel_rfl) rfl #[.agg #[.int .i64 ((rd_T67 l0 x9_1).f0), .string ((rd_T67 l0 x9_1).f1), .string ((rd_T67 l0 x9_1).f2), .int .i64 ((rd_T67 l0 x9_1).f3.f0), .int .i64 ((rd_T67 l0 x9_1).f3.f1), .string ((rd_T67 l0 x9_1).f3.f2), .slice A103_6 ((rd_T67 l0 x9_1).f3.f3).length c103_6, .int .i64 ((rd_T67 l0 x9_1).f4)], .int .i64 (l0.length : Int), .slice A1 l1.length c1, .slice A2 l2.length c2] rfl qm ?_; (with_reducible refine (malthouseref11_named.calls k1 ((rd_T67 l0 x9_1).f0) ((rd_T67 l0 x9_1).f1) ((rd_T67 l0 x9_1).f2) ((rd_T67 l0 x9_1).f3.f0) ((rd_T67 l0 x9_1).f3.f1) ((rd_T67 l0 x9_1).f3.f2) _ _ ((rd_T67 l0 x9_1).f3.f3) ((rd_T67 l0 x9_1).f4) (l0.length : Int) _ _ l1 _ _ l2 t104 _ ?side1 ?side2 ?side3 ?side4 ?side5 ?side6 A10.out).mono ?_); (case side1 => exact qC HR103_6.out); (case side2 => exact HC103_6.out); (case side3 => exact qC HR1.out); (case side4 => exact HC1.out); (case side5 => exact qC HR2.out); (case side6 => exact HC2.out); rintro e w36 ⟨rfl, hb⟩; refine ⟨_, rfl, ?_⟩; have n0_ := qs hb; clear HB; have HB := n0_; clear n0_; (try clear hb)))
      go_ret
      exact qr
     replace c9 := Bool.eq_false_iff.mpr c9
     subst c9
     rw [if_neg qf] at H
     obtain rfl := Option.some.inj H
     have p101 : 0 ≤ (x9_1 : Int) := qa
     have q101 : x9_1 < (l0.length : Int) := qa
     obtain ⟨ad101, A101_6, c101_6, e101, hx101_0, hx101_1, hx101_2, hx101_3, hx101_4, hx101_5, hx101_6, hx101_7, hl101_6, hi101_6⟩ := at_T67 HR0.out x9_1 p101 q101
     cases e101
     replace hx101_0 := qc HB.out hx101_0
     replace hx101_1 := qc HB.out hx101_1
     replace hx101_2 := qc HB.out hx101_2
     replace hx101_3 := qc HB.out hx101_3
     replace hx101_4 := qc HB.out hx101_4
     replace hx101_5 := qc HB.out hx101_5
     replace hx101_6 := qc HB.out hx101_6
     replace hx101_7 := qc HB.out hx101_7
     have HR101_6 := Aside0.mk hi101_6
     have HC101_6 := Aside0.mk hl101_6
     clear hi101_6 hl101_6
     replace p101 := eq_true p101
     replace q101 := eq_true q101
     go_wp2_with (first | ((with_reducible refine gate_callee (f := 74) rfl ?_); refine goesL_ (some 29) rfl rfl Tryd.func74 (by kernel_rfl) rfl #[.agg #[.int .i64 ((rd_T67 l0 x9_1).f0), .string ((rd_T67 l0 x9_1).f1), .string ((rd_T67 l0 x9_1).f2), .int .i64 ((rd_T67 l0 x9_1).f3.f0), .int .i64 ((rd_T67 l0 x9_1).f3.f1), .string ((rd_T67 l0 x9_1).f3.f2), .slice A101_6 ((rd_T67 l0 x9_1).f3.f3).length c101_6, .int .i64 ((rd_T67 l0 x9_1).f4)]] rfl qm ?_; (with_reducible refine (malthouseref11_form.calls k1 ((rd_T67 l0 x9_1).f0) ((rd_T67 l0 x9_1).f1) ((rd_T67 l0 x9_1).f2) ((rd_T67 l0 x9_1).f3.f0) ((rd_T67 l0 x9_1).f3.f1) ((rd_T67 l0 x9_1).f3.f2) _ _ ((rd_T67 l0 x9_1).f3.f3) ((rd_T67 l0 x9_1).f4) false _ ?side1 ?side2 A8.out).mono ?_); (case side1 => exact qC HR101_6.out); (case side2 => exact HC101_6.out); rintro e w37 ⟨rfl, hb⟩; refine ⟨_, rfl, ?_⟩; have n0_ := qs hb; clear HB; have HB := n0_; clear n0_; (try clear hb)))
     go_ret
     exact qr
    rw [if_neg c7] at H
    exact absurd H (by simp)
   rw [if_neg c6] at H
   have c6b0 : decide (x9_1 < (l0.length : Int)) = false := decide_eq_false c6
   clear c6
   obtain rfl := Option.some.inj H
   go_wp2
   go_ret
   exact qr
def malthouseref11_Ends.l0 : Nat → List (S67) → Int → Option (Bool)
  | 0, _, _ => none
  | k + 1, x0, x3 => if x3 < (x0.length : Int) then (if 0 ≤ x3 then (if ((rd_T67 x0 x3).f0) = 6 then (if ((rd_T67 x0 x3).f4) ≤ x3 then (some false) else (malthouseref11_Ends.l0 k x0 (wrap64 (x3 + 1)))) else (malthouseref11_Ends.l0 k x0 (wrap64 (x3 + 1)))) else (none)) else (some true)
def malthouseref11_Ends.f (k : Nat) (l0 : List (S67)) : Option (Bool) := malthouseref11_Ends.l0 k l0 0
set_option maxHeartbeats 8000000 in
set_option maxRecDepth 100000 in
theorem malthouseref11_Ends.calls (k : Nat) (A0 : Option Addr) (c0 : Nat) (l0 : List (S67)) (r : Bool) (w : World) (hr0 : Kd.C k67 w A0 l0.length l0) (hc0 : l0.length ≤ c0) (h : malthouseref11_Ends.f k l0 = some r) :
    Calls Tryd.prog 47 #[.slice A0 l0.length c0] w fun e w' => e = .returned (.bool r) ∧ Drawn0 w w' := by
  have HR0 := Aside0.mk hr0
  have HC0 := Aside0.mk hc0
  clear hr0 hc0
  have H : (malthouseref11_Ends.l0 k l0 0) = some r := h
  clear h
  have H' := Aside0.mk H
  clear H
  go_enter Tryd.func47, Tryd.ntmps47
  go_wp2
  go_loopg [3] k (fun kq v3 w' => ∃ (x3_1 : Int), v3 = .int .i64 x3_1 ∧ Aside0 (malthouseref11_Ends.l0 kq l0 x3_1 = some r) ∧ Aside0 (kq ≤ k) ∧ Drawn0 w w')
  case atStart => exact ⟨(0), qv, H', ⟨Nat.le_refl _⟩, by repeat (first | exact Drawn0.refl _ | apply Drawn0.step)⟩
  case round =>
    clear H'
    obtain ⟨x3_1, rfl, HA, HK1, ⟨m1, rfl⟩⟩ := hrel
    cases gk with
    | zero => exact absurd HA.out (by simp [malthouseref11_Ends.l0])
    | succ k1 =>
      have H := HA.out
      clear HA
      simp only [malthouseref11_Ends.l0] at H
      by_cases c2 : x3_1 < (l0.length : Int)
      · rw [if_pos c2] at H
        have c2b0 : decide (x3_1 < (l0.length : Int)) = true := decide_eq_true c2
        clear c2
        by_cases c3 : 0 ≤ x3_1
        · rw [if_pos c3] at H
          have c3b0 : decide (0 ≤ x3_1) = true := decide_eq_true c3
          clear c3
          by_cases c4 : ((rd_T67 l0 x3_1).f0) = 6
          · rw [if_pos c4] at H
            obtain ⟨c4b0, c4b1⟩ := qe c4
            clear c4
            by_cases c5 : ((rd_T67 l0 x3_1).f4) ≤ x3_1
            · rw [if_pos c5] at H
              have c5b0 : decide (((rd_T67 l0 x3_1).f4) ≤ x3_1) = true := decide_eq_true c5
              clear c5
              obtain rfl := Option.some.inj H
              have p101 : 0 ≤ (x3_1 : Int) := qa
              have q101 : x3_1 < (l0.length : Int) := qa
              obtain ⟨ad101, A101_6, c101_6, e101, hx101_0, hx101_1, hx101_2, hx101_3, hx101_4, hx101_5, hx101_6, hx101_7, hl101_6, hi101_6⟩ := at_T67 HR0.out x3_1 p101 q101
              cases e101
              have HR101_6 := Aside0.mk hi101_6
              have HC101_6 := Aside0.mk hl101_6
              clear hi101_6 hl101_6
              replace p101 := eq_true p101
              replace q101 := eq_true q101
              have p102 : 0 ≤ (x3_1 : Int) := qa
              have q102 : x3_1 < (l0.length : Int) := qa
              obtain ⟨ad102, A102_6, c102_6, e102, hx102_0, hx102_1, hx102_2, hx102_3, hx102_4, hx102_5, hx102_6, hx102_7, hl102_6, hi102_6⟩ := at_T67 HR0.out x3_1 p102 q102
              obtain rfl : ad101 = ad102 := (by injection e102)
              have HR102_6 := Aside0.mk hi102_6
              have HC102_6 := Aside0.mk hl102_6
              clear hi102_6 hl102_6
              replace p102 := eq_true p102
              replace q102 := eq_true q102
              have ea_ := Option.some.inj (hx101_6.symm.trans hx102_6)
              injection ea_ with ea_ en_ ec_
              subst ea_
              subst ec_
              clear en_
              go_wp2
              go_ret
              exact ⟨by first | rfl | (simp; done) | (simp [*]; done), by repeat (first | exact Drawn0.refl _ | apply Drawn0.step)⟩
            rw [if_neg c5] at H
            have c5b0 : decide (((rd_T67 l0 x3_1).f4) ≤ x3_1) = false := decide_eq_false c5
            clear c5
            have H' := Aside0.mk H
            clear H
            have p101 : 0 ≤ (x3_1 : Int) := qa
            have q101 : x3_1 < (l0.length : Int) := qa
            obtain ⟨ad101, A101_6, c101_6, e101, hx101_0, hx101_1, hx101_2, hx101_3, hx101_4, hx101_5, hx101_6, hx101_7, hl101_6, hi101_6⟩ := at_T67 HR0.out x3_1 p101 q101
            cases e101
            have HR101_6 := Aside0.mk hi101_6
            have HC101_6 := Aside0.mk hl101_6
            clear hi101_6 hl101_6
            replace p101 := eq_true p101
            replace q101 := eq_true q101
            have p102 : 0 ≤ (x3_1 : Int) := qa
            have q102 : x3_1 < (l0.length : Int) := qa
            obtain ⟨ad102, A102_6, c102_6, e102, hx102_0, hx102_1, hx102_2, hx102_3, hx102_4, hx102_5, hx102_6, hx102_7, hl102_6, hi102_6⟩ := at_T67 HR0.out x3_1 p102 q102
            obtain rfl : ad101 = ad102 := (by injection e102)
            have HR102_6 := Aside0.mk hi102_6
            have HC102_6 := Aside0.mk hl102_6
            clear hi102_6 hl102_6
            replace p102 := eq_true p102
            replace q102 := eq_true q102
            have ea_ := Option.some.inj (hx101_6.symm.trans hx102_6)
            injection ea_ with ea_ en_ ec_
            subst ea_
            subst ec_
            clear en_
            go_wp2
            go_roundg k1
            case measure => have := HK1.out; omega
            case rel => exact ⟨(wrap64 (x3_1 + 1)), qv, H', ⟨by have := HK1.out; omega⟩, by repeat (first | exact Drawn0.refl _ | apply Drawn0.step)⟩
          rw [if_neg c4] at H
          obtain ⟨c4b0, c4b1⟩ := qd c4
          have H' := Aside0.mk H
          clear H
          have p101 : 0 ≤ (x3_1 : Int) := qa
          have q101 : x3_1 < (l0.length : Int) := qa
          obtain ⟨ad101, A101_6, c101_6, e101, hx101_0, hx101_1, hx101_2, hx101_3, hx101_4, hx101_5, hx101_6, hx101_7, hl101_6, hi101_6⟩ := at_T67 HR0.out x3_1 p101 q101
          cases e101
          have HR101_6 := Aside0.mk hi101_6
          have HC101_6 := Aside0.mk hl101_6
          clear hi101_6 hl101_6
          replace p101 := eq_true p101
          replace q101 := eq_true q101
          go_wp2
          go_roundg k1
          case measure => have := HK1.out; omega
          case rel => exact ⟨(wrap64 (x3_1 + 1)), qv, H', ⟨by have := HK1.out; omega⟩, by repeat (first | exact Drawn0.refl _ | apply Drawn0.step)⟩
        rw [if_neg c3] at H
        exact absurd H (by simp)
      rw [if_neg c2] at H
      have c2b0 : decide (x3_1 < (l0.length : Int)) = false := decide_eq_false c2
      clear c2
      obtain rfl := Option.some.inj H
      go_wp2
      go_ret
      exact ⟨by first | rfl | (simp; done) | (simp [*]; done), by repeat (first | exact Drawn0.refl _ | apply Drawn0.step)⟩
end Go.Proofs.YtiaccdaeomaogaaDoor.F
