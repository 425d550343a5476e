/- Texts of one claim, slimmed and merged by slim.py. -/
import Derived.Test.YtiaccdaeomaogaaDoorR4
import Derived.Test.YtiaccdaeomaogaaDoorR20
import Derived.Test.YtiaccdaeomaogaaDoorR27
import Derived.Test.YtiaccdaeomaogaaDoorR34
import Derived.Test.YtiaccdaeomaogaaDoorR35
namespace Go.Proofs.YtiaccdaeomaogaaDoor.F
open Go.RowKit Go.Proofs.YtiaccdaeomaogaaDoorW.PrintWords Go.Proofs.YtiaccdaeomaogaaDoorW.PrintLast Go.Proofs.YtiaccdaeomaogaaDoorW.PrintMore
attribute [local go_sem] max2_int min2_int max_two min_two max_three min_three max_four min_four   -- for this text's walks alone
set_option linter.unusedVariables false
set_option linter.unusedSimpArgs false
mutual
def malthouseref09_check.l0 : Nat → List (S43) → List ByteArray → List ByteArray → Bool → List ByteArray → Int → Option (Int)
  | 0, _, _, _, _, _, _ => none
  | k + 1, x0, x1, x2, x3, x9, x10 => if x10 < (x0.length : Int) then (if 0 ≤ x10 then ((malthouseref01_Name.f k ((rd_T43 x0 x10).f1)).bind fun t105 => (if ((rd_T43 x0 x10).f0) < 0 then (malthouseref09_check.j1 k x0 x1 x2 x3 x9 x10 true) else (if ((rd_T43 x0 x10).f0) > 4 then (malthouseref09_check.j1 k x0 x1 x2 x3 x9 x10 true) else (malthouseref09_check.j1 k x0 x1 x2 x3 x9 x10 (!t105))))) else (none)) else (some 0)
def malthouseref09_check.j1 : Nat → List (S43) → List ByteArray → List ByteArray → Bool → List ByteArray → Int → Bool → Option (Int)
  | 0, _, _, _, _, _, _, _ => none
  | k + 1, x0, x1, x2, x3, x9, x10, x47 => if x47 = true then (some 1) else (if 0 ≤ x10 then (if x10 < (x0.length : Int) then (if ((rd_T43 x0 x10).f0) = 3 then (if x3 = true then (malthouseref09_check.j2 k x0 x1 x2 x3 x9 x10 false) else ((malthouseref09_Place.f k x2 ((rd_T43 x0 x10).f1)).bind fun t110 => (malthouseref09_check.j2 k x0 x1 x2 x3 x9 x10 (decide (t110 < 0))))) else (if ((rd_T43 x0 x10).f0) = 4 then (if x3 = true then (malthouseref09_check.j2 k x0 x1 x2 x3 x9 x10 false) else ((malthouseref09_Place.f k x2 ((rd_T43 x0 x10).f1)).bind fun t113 => (malthouseref09_check.j2 k x0 x1 x2 x3 x9 x10 (decide (t113 < 0))))) else (malthouseref09_check.j2 k x0 x1 x2 x3 x9 x10 false))) else (none)) else (none))
def malthouseref09_check.j2 : Nat → List (S43) → List ByteArray → List ByteArray → Bool → List ByteArray → Int → Bool → Option (Int)
  | 0, _, _, _, _, _, _, _ => none
  | k + 1, x0, x1, x2, x3, x9, x10, x75 => if x75 = true then (some 21) else (if 0 ≤ x10 then (if x10 < (x0.length : Int) then ((malthouseref09_Code.f k ((rd_T43 x0 x10).f2) x9 x1 x3).bind fun t115 => (if t115 = 0 then (malthouseref09_check.l0 k x0 x1 x2 x3 x9 (wrap64 (x10 + 1))) else (some t115))) else (none)) else (none))
end
def malthouseref09_check.f (k : Nat) (l0 : List (S43)) (l1 : List ByteArray) (l2 : List ByteArray) (a3 : Bool) : Option (Int) := if (l0.length : Int) > 12 then (some 2) else ((malthouseref09_Bits.f k l0).bind fun t101 => (malthouseref09_check.l0 k l0 l1 l2 a3 t101 0))
set_option maxHeartbeats 8000000 in
set_option maxRecDepth 100000 in
theorem malthouseref09_check.calls (k : Nat) (A0 : Option Addr) (c0 : Nat) (l0 : List (S43)) (A1 : Option Addr) (c1 : Nat) (l1 : List ByteArray) (A2 : Option Addr) (c2 : Nat) (l2 : List ByteArray) (a3 : Bool) (r : Int) (w : World) (hr0 : Kd.C k43 w A0 l0.length l0) (hc0 : l0.length ≤ c0) (hr1 : Kd.C Kd.string w A1 l1.length l1) (hc1 : l1.length ≤ c1) (hr2 : Kd.C Kd.string w A2 l2.length l2) (hc2 : l2.length ≤ c2) (h : malthouseref09_check.f k l0 l1 l2 a3 = some r) :
  Calls Tryd.prog 62 #[.slice A0 l0.length c0, .slice A1 l1.length c1, .slice A2 l2.length c2, .bool a3] w fun e w' => e = .returned (.int .i64 r) ∧ Below w.heap.size w w' := by
 have HR0 := Aside0.mk hr0
 have HC0 := Aside0.mk hc0
 clear hr0 hc0
 have HR1 := Aside0.mk hr1
 have HC1 := Aside0.mk hc1
 clear hr1 hc1
 have HR2 := Aside0.mk hr2
 have HC2 := Aside0.mk hc2
 clear hr2 hc2
 have HB := Aside0.mk (Below.refl w.heap.size w)
 have H : (if (l0.length : Int) > 12 then (some 2) else ((malthouseref09_Bits.f k l0).bind fun t101 => (malthouseref09_check.l0 k l0 l1 l2 a3 t101 0))) = some r := h
 clear h
 by_cases c5 : (l0.length : Int) > 12
 ·rw [if_pos c5] at H
  have c5b0 : decide (12 < (l0.length : Int)) = true := decide_eq_true c5
  have c5b1 : decide (12 < l0.length) = true := decide_eq_true (by omega)
  clear c5
  obtain rfl := Option.some.inj H
  go_enter Tryd.func62, Tryd.ntmps62
  go_wp2
  go_ret
  exact qr
 rw [if_neg c5] at H
 have c5b0 : decide (12 < (l0.length : Int)) = false := decide_eq_false c5
 have c5b1 : decide (12 < l0.length) = false := decide_eq_false (by omega)
 clear c5
 replace H := qi H
 obtain ⟨t101, A6, H⟩ := H
 have H' := Aside0.mk H
 clear H
 go_enter Tryd.func62, Tryd.ntmps62
 go_wp2_with (first | ((with_reducible refine gate_callee (f := 24) rfl ?_); refine goesL_ (some 17) rfl rfl Tryd.func24 (by kernel_rfl) rfl #[.slice A0 l0.length c0] rfl qm ?_; (with_reducible refine (malthouseref09_Bits.calls k _ _ l0 t101 _ ?side1 ?side2 A6.out).mono ?_); (case side1 => repeat (first | exact HR0.out | (with_reducible refine Kd.C_alloc ?_ _) | (with_reducible refine Kd.C_drewN ?_ _) | (with_reducible refine Kd.C_drew ?_))); (case side2 => exact HC0.out); rintro e w7 ⟨v102, rfl, ho0, hb⟩; refine ⟨_, rfl, ?_⟩; have n0_ := Aside0.mk (Kd.R_lower ho0 (below_size qb)); have n1_ := qs hb; clear HB; have HO103 := n0_; have HB := n1_; clear n0_ n1_; (try clear hb); (try clear ho0)))
 go_loopg [10] k (fun kq v10 w' => ∃ (x10_1 : Int), v10 = .int .i64 x10_1 ∧ Aside0 (malthouseref09_check.l0 kq l0 l1 l2 a3 t101 x10_1 = some r) ∧ Aside0 (kq ≤ k) ∧ Aside0 (Kd.R Kd.string 9 w' w.heap.size (fun _ => True) v102 t101) ∧ Aside0 (Below w.heap.size w w'))
 case atStart => exact ⟨(0), qv, H', ⟨Nat.le_refl _⟩, ⟨by (with_reducible repeat (first | apply Kd.R_alloc | apply Kd.R_drewN | apply Kd.R_drew)); exact HO103.out⟩, qB⟩
 case round =>
  clear H'
  obtain ⟨x10_1, rfl, HA, HK1, HO_9, HB⟩ := hrel
  cases gk with
  | zero => exact absurd HA.out (by simp [malthouseref09_check.l0])
  | succ k1 =>
   have H := HA.out
   clear HA
   simp only [malthouseref09_check.l0] at H
   by_cases c8 : x10_1 < (l0.length : Int)
   ·rw [if_pos c8] at H
    have c8b0 : decide (x10_1 < (l0.length : Int)) = true := decide_eq_true c8
    clear c8
    by_cases c9 : 0 ≤ x10_1
    ·rw [if_pos c9] at H
     have c9b0 : decide (0 ≤ x10_1) = true := decide_eq_true c9
     clear c9
     replace H := qi H
     obtain ⟨t105, A10, H⟩ := H
     have HC11 := Aside0.mk H
     clear H
     have p104 : 0 ≤ (x10_1 : Int) := qa
     have q104 : x10_1 < (l0.length : Int) := qa
     obtain ⟨ad104, A104_2, c104_2, e104, hx104_0, hx104_1, hx104_2, hl104_2, hi104_2⟩ := at_T43 HR0.out x10_1 p104 q104
     cases e104
     replace hx104_0 := qc HB.out hx104_0
     replace hx104_1 := qc HB.out hx104_1
     replace hx104_2 := qc HB.out hx104_2
     have HR104_2 := Aside0.mk hi104_2
     have HC104_2 := Aside0.mk hl104_2
     clear hi104_2 hl104_2
     replace p104 := eq_true p104
     replace q104 := eq_true q104
     go_upto_region 8 with (first | ((with_reducible refine gate_callee (f := 94) rfl ?_); refine goesL_ (some 29) rfl rfl Tryd.func94 (by kernel_rfl) rfl #[.string ((rd_T43 l0 x10_1).f1)] rfl qm ?_; (with_reducible refine (malthouseref01_Name.calls k1 ((rd_T43 l0 x10_1).f1) t105 _ A10.out).mono ?_); rintro e w12 ⟨rfl, hb⟩; refine ⟨_, rfl, ?_⟩; have n0_ := Aside0.mk (Kd.R_below (by (with_reducible repeat (first | apply Kd.R_alloc | apply Kd.R_drewN | apply Kd.R_drew)); exact HO_9.out) hb); have n1_ := qs hb; clear HO_9; clear HB; have HO_9 := n0_; have HB := n1_; clear n0_ n1_; (try clear hb)))
     (try simp only [Act.put, List.setIfInBounds_toArray, List.set_cons_zero, List.set_cons_succ])
     go_cut [47] (fun v47 wc => ∃ (kq : Nat) (x47_10 : Bool), v47 = .bool x47_10 ∧ Aside0 (malthouseref09_check.j1 kq l0 l1 l2 a3 t101 x10_1 x47_10 = some r) ∧ Aside0 (kq ≤ k1) ∧ Aside0 (Kd.R Kd.string 9 wc w.heap.size (fun _ => True) v102 t101) ∧ Aside0 (Below w.heap.size w wc))
     case first =>
      have H := HC11.out
      clear HC11
      by_cases c13 : ((rd_T43 l0 x10_1).f0) < 0
      ·rw [if_pos c13] at H
       have c13b0 : decide (((rd_T43 l0 x10_1).f0) < 0) = true := decide_eq_true c13
       clear c13
       (first | rw [c13b0] | (simp only [i64_w, i32_w]; rw [c13b0]) | skip)
       have H' := Aside0.mk H
       clear H
       have p106 : 0 ≤ (x10_1 : Int) := qa
       have q106 : x10_1 < (l0.length : Int) := qa
       obtain ⟨ad106, A106_2, c106_2, e106, hx106_0, hx106_1, hx106_2, hl106_2, hi106_2⟩ := at_T43 HR0.out x10_1 p106 q106
       obtain rfl : ad104 = ad106 := (by injection e106)
       replace hx106_0 := qc HB.out hx106_0
       replace hx106_1 := qc HB.out hx106_1
       replace hx106_2 := qc HB.out hx106_2
       have HR106_2 := Aside0.mk hi106_2
       have HC106_2 := Aside0.mk hl106_2
       clear hi106_2 hl106_2
       replace p106 := eq_true p106
       replace q106 := eq_true q106
       go_wp2
       go_meet
       case rel => exact ⟨_, (true), qv, H', ⟨by have := HK1.out; first | omega | exact Nat.le_refl _⟩, ⟨by (with_reducible repeat (first | apply Kd.R_alloc | apply Kd.R_drewN | apply Kd.R_drew)); exact HO_9.out⟩, qB⟩
      rw [if_neg c13] at H
      have c13b0 : decide (((rd_T43 l0 x10_1).f0) < 0) = false := decide_eq_false c13
      clear c13
      (first | rw [c13b0] | (simp only [i64_w, i32_w]; rw [c13b0]) | skip)
      by_cases c14 : ((rd_T43 l0 x10_1).f0) > 4
      ·rw [if_pos c14] at H
       have c14b0 : decide (4 < ((rd_T43 l0 x10_1).f0)) = true := decide_eq_true c14
       clear c14
       have H' := Aside0.mk H
       clear H
       have p106 : 0 ≤ (x10_1 : Int) := qa
       have q106 : x10_1 < (l0.length : Int) := qa
       obtain ⟨ad106, A106_2, c106_2, e106, hx106_0, hx106_1, hx106_2, hl106_2, hi106_2⟩ := at_T43 HR0.out x10_1 p106 q106
       obtain rfl : ad104 = ad106 := (by injection e106)
       replace hx106_0 := qc HB.out hx106_0
       replace hx106_1 := qc HB.out hx106_1
       replace hx106_2 := qc HB.out hx106_2
       have HR106_2 := Aside0.mk hi106_2
       have HC106_2 := Aside0.mk hl106_2
       clear hi106_2 hl106_2
       replace p106 := eq_true p106
       replace q106 := eq_true q106
       have p107 : 0 ≤ (x10_1 : Int) := qa
       have q107 : x10_1 < (l0.length : Int) := qa
       obtain ⟨ad107, A107_2, c107_2, e107, hx107_0, hx107_1, hx107_2, hl107_2, hi107_2⟩ := at_T43 HR0.out x10_1 p107 q107
       obtain rfl : ad104 = ad107 := (by injection e107)
       replace hx107_0 := qc HB.out hx107_0
       replace hx107_1 := qc HB.out hx107_1
       replace hx107_2 := qc HB.out hx107_2
       have HR107_2 := Aside0.mk hi107_2
       have HC107_2 := Aside0.mk hl107_2
       clear hi107_2 hl107_2
       replace p107 := eq_true p107
       replace q107 := eq_true q107
       have ea_ := Option.some.inj (hx106_2.symm.trans hx107_2)
       injection ea_ with ea_ en_ ec_
       subst ea_
       subst ec_
       clear en_
       go_wp2
       go_meet
       case rel => exact ⟨_, (true), qv, H', ⟨by have := HK1.out; first | omega | exact Nat.le_refl _⟩, ⟨by (with_reducible repeat (first | apply Kd.R_alloc | apply Kd.R_drewN | apply Kd.R_drew)); exact HO_9.out⟩, qB⟩
      rw [if_neg c14] at H
      have c14b0 : decide (4 < ((rd_T43 l0 x10_1).f0)) = false := decide_eq_false c14
      clear c14
      have H' := Aside0.mk H
      clear H
      have p106 : 0 ≤ (x10_1 : Int) := qa
      have q106 : x10_1 < (l0.length : Int) := qa
      obtain ⟨ad106, A106_2, c106_2, e106, hx106_0, hx106_1, hx106_2, hl106_2, hi106_2⟩ := at_T43 HR0.out x10_1 p106 q106
      obtain rfl : ad104 = ad106 := (by injection e106)
      replace hx106_0 := qc HB.out hx106_0
      replace hx106_1 := qc HB.out hx106_1
      replace hx106_2 := qc HB.out hx106_2
      have HR106_2 := Aside0.mk hi106_2
      have HC106_2 := Aside0.mk hl106_2
      clear hi106_2 hl106_2
      replace p106 := eq_true p106
      replace q106 := eq_true q106
      have p107 : 0 ≤ (x10_1 : Int) := qa
      have q107 : x10_1 < (l0.length : Int) := qa
      obtain ⟨ad107, A107_2, c107_2, e107, hx107_0, hx107_1, hx107_2, hl107_2, hi107_2⟩ := at_T43 HR0.out x10_1 p107 q107
      obtain rfl : ad104 = ad107 := (by injection e107)
      replace hx107_0 := qc HB.out hx107_0
      replace hx107_1 := qc HB.out hx107_1
      replace hx107_2 := qc HB.out hx107_2
      have HR107_2 := Aside0.mk hi107_2
      have HC107_2 := Aside0.mk hl107_2
      clear hi107_2 hl107_2
      replace p107 := eq_true p107
      replace q107 := eq_true q107
      have ea_ := Option.some.inj (hx106_2.symm.trans hx107_2)
      injection ea_ with ea_ en_ ec_
      subst ea_
      subst ec_
      clear en_
      go_wp2
      go_meet
      case rel => exact ⟨_, (!t105), qv, H', ⟨by have := HK1.out; first | omega | exact Nat.le_refl _⟩, ⟨by (with_reducible repeat (first | apply Kd.R_alloc | apply Kd.R_drewN | apply Kd.R_drew)); exact HO_9.out⟩, qB⟩
     clear HC11
     obtain ⟨kq, x47_10, rfl, HA, HJ10, HO_9, HB⟩ := hcut
     cases kq with
     | zero => exact absurd HA.out (by simp [malthouseref09_check.j1])
     | succ kj10 =>
      have H := HA.out
      clear HA
      simp only [malthouseref09_check.j1] at H
      by_cases c15 : x47_10 = true
      ·subst c15
       rw [if_pos rfl] at H
       obtain rfl := Option.some.inj H
       go_wp2
       go_ret
       exact qr
      replace c15 := Bool.eq_false_iff.mpr c15
      subst c15
      rw [if_neg qf] at H
      have HC16 := Aside0.mk H
      clear H
      go_upto_region 10 with (fail)
      go_cut [75] (fun v75 wc => ∃ (kq : Nat) (x75_15 : Bool), v75 = .bool x75_15 ∧ Aside0 (malthouseref09_check.j2 kq l0 l1 l2 a3 t101 x10_1 x75_15 = some r) ∧ Aside0 (kq ≤ kj10) ∧ Aside0 (Kd.R Kd.string 9 wc w.heap.size (fun _ => True) v102 t101) ∧ Aside0 (Below w.heap.size w wc))
      case first =>
       have H := HC16.out
       clear HC16
       by_cases c17 : 0 ≤ x10_1
       ·rw [if_pos c17] at H
        have c17b0 : decide (0 ≤ x10_1) = true := decide_eq_true c17
        clear c17
        (first | rw [c17b0] | (simp only [i64_w, i32_w]; rw [c17b0]) | skip)
        by_cases c18 : x10_1 < (l0.length : Int)
        ·rw [if_pos c18] at H
         have c18b0 : decide (x10_1 < (l0.length : Int)) = true := decide_eq_true c18
         clear c18
         by_cases c19 : ((rd_T43 l0 x10_1).f0) = 3
         ·rw [if_pos c19] at H
          obtain ⟨c19b0, c19b1⟩ := qe c19
          clear c19
          by_cases c20 : a3 = true
          ·subst c20
           rw [if_pos rfl] at H
           have H' := Aside0.mk H
           clear H
           have p108 : 0 ≤ (x10_1 : Int) := qa
           have q108 : x10_1 < (l0.length : Int) := qa
           obtain ⟨ad108, A108_2, c108_2, e108, hx108_0, hx108_1, hx108_2, hl108_2, hi108_2⟩ := at_T43 HR0.out x10_1 p108 q108
           obtain rfl : ad104 = ad108 := (by injection e108)
           replace hx108_0 := qc HB.out hx108_0
           replace hx108_1 := qc HB.out hx108_1
           replace hx108_2 := qc HB.out hx108_2
           have HR108_2 := Aside0.mk hi108_2
           have HC108_2 := Aside0.mk hl108_2
           clear hi108_2 hl108_2
           replace p108 := eq_true p108
           replace q108 := eq_true q108
           go_wp2
           go_meet
           case rel => exact ⟨_, (false), qv, H', ⟨by have := HK1.out; have := HJ10.out; first | omega | exact Nat.le_refl _⟩, ⟨by (with_reducible repeat (first | apply Kd.R_alloc | apply Kd.R_drewN | apply Kd.R_drew)); exact HO_9.out⟩, qB⟩
          replace c20 := Bool.eq_false_iff.mpr c20
          subst c20
          rw [if_neg qf] at H
          replace H := qi H
          obtain ⟨t110, A21, H⟩ := H
          have H' := Aside0.mk H
          clear H
          have p108 : 0 ≤ (x10_1 : Int) := qa
          have q108 : x10_1 < (l0.length : Int) := qa
          obtain ⟨ad108, A108_2, c108_2, e108, hx108_0, hx108_1, hx108_2, hl108_2, hi108_2⟩ := at_T43 HR0.out x10_1 p108 q108
          obtain rfl : ad104 = ad108 := (by injection e108)
          replace hx108_0 := qc HB.out hx108_0
          replace hx108_1 := qc HB.out hx108_1
          replace hx108_2 := qc HB.out hx108_2
          have HR108_2 := Aside0.mk hi108_2
          have HC108_2 := Aside0.mk hl108_2
          clear hi108_2 hl108_2
          replace p108 := eq_true p108
          replace q108 := eq_true q108
          have p109 : 0 ≤ (x10_1 : Int) := qa
          have q109 : x10_1 < (l0.length : Int) := qa
          obtain ⟨ad109, A109_2, c109_2, e109, hx109_0, hx109_1, hx109_2, hl109_2, hi109_2⟩ := at_T43 HR0.out x10_1 p109 q109
          obtain rfl : ad104 = ad109 := (by injection e109)
          replace hx109_0 := qc HB.out hx109_0
          replace hx109_1 := qc HB.out hx109_1
          replace hx109_2 := qc HB.out hx109_2
          have HR109_2 := Aside0.mk hi109_2
          have HC109_2 := Aside0.mk hl109_2
          clear hi109_2 hl109_2
          replace p109 := eq_true p109
          replace q109 := eq_true q109
          have ea_ := Option.some.inj (hx108_2.symm.trans hx109_2)
          injection ea_ with ea_ en_ ec_
          subst ea_
          subst ec_
          clear en_
          go_wp2_with (first | (go_at_call 33; (with_reducible refine (malthouseref09_Place.calls kj10 _ _ l2 ((rd_T43 l0 x10_1).f1) t110 _ ?side1 ?side2 A21.out).mono ?_); (case side1 => exact qC HR2.out); (case side2 => exact HC2.out); rintro e w' ⟨rfl, ⟨nd, rfl⟩⟩))
          go_meet
          case rel => exact ⟨_, (decide (t110 < 0)), qv, H', ⟨by have := HK1.out; have := HJ10.out; first | omega | exact Nat.le_refl _⟩, ⟨by (with_reducible repeat (first | apply Kd.R_alloc | apply Kd.R_drewN | apply Kd.R_drew)); exact HO_9.out⟩, qB⟩
         rw [if_neg c19] at H
         obtain ⟨c19b0, c19b1⟩ := qd c19
         by_cases c22 : ((rd_T43 l0 x10_1).f0) = 4
         ·rw [if_pos c22] at H
          obtain ⟨c22b0, c22b1⟩ := qe c22
          clear c22
          by_cases c23 : a3 = true
          ·subst c23
           rw [if_pos rfl] at H
           have H' := Aside0.mk H
           clear H
           have p108 : 0 ≤ (x10_1 : Int) := qa
           have q108 : x10_1 < (l0.length : Int) := qa
           obtain ⟨ad108, A108_2, c108_2, e108, hx108_0, hx108_1, hx108_2, hl108_2, hi108_2⟩ := at_T43 HR0.out x10_1 p108 q108
           obtain rfl : ad104 = ad108 := (by injection e108)
           replace hx108_0 := qc HB.out hx108_0
           replace hx108_1 := qc HB.out hx108_1
           replace hx108_2 := qc HB.out hx108_2
           have HR108_2 := Aside0.mk hi108_2
           have HC108_2 := Aside0.mk hl108_2
           clear hi108_2 hl108_2
           replace p108 := eq_true p108
           replace q108 := eq_true q108
           have p111 : 0 ≤ (x10_1 : Int) := qa
           have q111 : x10_1 < (l0.length : Int) := qa
           obtain ⟨ad111, A111_2, c111_2, e111, hx111_0, hx111_1, hx111_2, hl111_2, hi111_2⟩ := at_T43 HR0.out x10_1 p111 q111
           obtain rfl : ad104 = ad111 := (by injection e111)
           replace hx111_0 := qc HB.out hx111_0
           replace hx111_1 := qc HB.out hx111_1
           replace hx111_2 := qc HB.out hx111_2
           have HR111_2 := Aside0.mk hi111_2
           have HC111_2 := Aside0.mk hl111_2
           clear hi111_2 hl111_2
           replace p111 := eq_true p111
           replace q111 := eq_true q111
           have ea_ := Option.some.inj (hx108_2.symm.trans hx111_2)
           injection ea_ with ea_ en_ ec_
           subst ea_
           subst ec_
           clear en_
           go_wp2
           go_meet
           case rel => exact ⟨_, (false), qv, H', ⟨by have := HK1.out; have := HJ10.out; first | omega | exact Nat.le_refl _⟩, ⟨by (with_reducible repeat (first | apply Kd.R_alloc | apply Kd.R_drewN | apply Kd.R_drew)); exact HO_9.out⟩, qB⟩
          replace c23 := Bool.eq_false_iff.mpr c23
          subst c23
          rw [if_neg qf] at H
          replace H := qi H
          obtain ⟨t113, A24, H⟩ := H
          have H' := Aside0.mk H
          clear H
          have p108 : 0 ≤ (x10_1 : Int) := qa
          have q108 : x10_1 < (l0.length : Int) := qa
          obtain ⟨ad108, A108_2, c108_2, e108, hx108_0, hx108_1, hx108_2, hl108_2, hi108_2⟩ := at_T43 HR0.out x10_1 p108 q108
          obtain rfl : ad104 = ad108 := (by injection e108)
          replace hx108_0 := qc HB.out hx108_0
          replace hx108_1 := qc HB.out hx108_1
          replace hx108_2 := qc HB.out hx108_2
          have HR108_2 := Aside0.mk hi108_2
          have HC108_2 := Aside0.mk hl108_2
          clear hi108_2 hl108_2
          replace p108 := eq_true p108
          replace q108 := eq_true q108
          have p111 : 0 ≤ (x10_1 : Int) := qa
          have q111 : x10_1 < (l0.length : Int) := qa
          obtain ⟨ad111, A111_2, c111_2, e111, hx111_0, hx111_1, hx111_2, hl111_2, hi111_2⟩ := at_T43 HR0.out x10_1 p111 q111
          obtain rfl : ad104 = ad111 := (by injection e111)
          replace hx111_0 := qc HB.out hx111_0
          replace hx111_1 := qc HB.out hx111_1
          replace hx111_2 := qc HB.out hx111_2
          have HR111_2 := Aside0.mk hi111_2
          have HC111_2 := Aside0.mk hl111_2
          clear hi111_2 hl111_2
          replace p111 := eq_true p111
          replace q111 := eq_true q111
          have ea_ := Option.some.inj (hx108_2.symm.trans hx111_2)
          injection ea_ with ea_ en_ ec_
          subst ea_
          subst ec_
          clear en_
          have p112 : 0 ≤ (x10_1 : Int) := qa
          have q112 : x10_1 < (l0.length : Int) := qa
          obtain ⟨ad112, A112_2, c112_2, e112, hx112_0, hx112_1, hx112_2, hl112_2, hi112_2⟩ := at_T43 HR0.out x10_1 p112 q112
          obtain rfl : ad104 = ad112 := (by injection e112)
          replace hx112_0 := qc HB.out hx112_0
          replace hx112_1 := qc HB.out hx112_1
          replace hx112_2 := qc HB.out hx112_2
          have HR112_2 := Aside0.mk hi112_2
          have HC112_2 := Aside0.mk hl112_2
          clear hi112_2 hl112_2
          replace p112 := eq_true p112
          replace q112 := eq_true q112
          have ea_ := Option.some.inj (hx108_2.symm.trans hx112_2)
          injection ea_ with ea_ en_ ec_
          subst ea_
          subst ec_
          clear en_
          go_wp2_with (first | (go_at_call 33; (with_reducible refine (malthouseref09_Place.calls kj10 _ _ l2 ((rd_T43 l0 x10_1).f1) t113 _ ?side1 ?side2 A24.out).mono ?_); (case side1 => exact qC HR2.out); (case side2 => exact HC2.out); rintro e w' ⟨rfl, ⟨nd, rfl⟩⟩))
          go_meet
          case rel => exact ⟨_, (decide (t113 < 0)), qv, H', ⟨by have := HK1.out; have := HJ10.out; first | omega | exact Nat.le_refl _⟩, ⟨by (with_reducible repeat (first | apply Kd.R_alloc | apply Kd.R_drewN | apply Kd.R_drew)); exact HO_9.out⟩, qB⟩
         rw [if_neg c22] at H
         obtain ⟨c22b0, c22b1⟩ := qd c22
         have H' := Aside0.mk H
         clear H
         have p108 : 0 ≤ (x10_1 : Int) := qa
         have q108 : x10_1 < (l0.length : Int) := qa
         obtain ⟨ad108, A108_2, c108_2, e108, hx108_0, hx108_1, hx108_2, hl108_2, hi108_2⟩ := at_T43 HR0.out x10_1 p108 q108
         obtain rfl : ad104 = ad108 := (by injection e108)
         replace hx108_0 := qc HB.out hx108_0
         replace hx108_1 := qc HB.out hx108_1
         replace hx108_2 := qc HB.out hx108_2
         have HR108_2 := Aside0.mk hi108_2
         have HC108_2 := Aside0.mk hl108_2
         clear hi108_2 hl108_2
         replace p108 := eq_true p108
         replace q108 := eq_true q108
         have p111 : 0 ≤ (x10_1 : Int) := qa
         have q111 : x10_1 < (l0.length : Int) := qa
         obtain ⟨ad111, A111_2, c111_2, e111, hx111_0, hx111_1, hx111_2, hl111_2, hi111_2⟩ := at_T43 HR0.out x10_1 p111 q111
         obtain rfl : ad104 = ad111 := (by injection e111)
         replace hx111_0 := qc HB.out hx111_0
         replace hx111_1 := qc HB.out hx111_1
         replace hx111_2 := qc HB.out hx111_2
         have HR111_2 := Aside0.mk hi111_2
         have HC111_2 := Aside0.mk hl111_2
         clear hi111_2 hl111_2
         replace p111 := eq_true p111
         replace q111 := eq_true q111
         have ea_ := Option.some.inj (hx108_2.symm.trans hx111_2)
         injection ea_ with ea_ en_ ec_
         subst ea_
         subst ec_
         clear en_
         go_wp2
         go_meet
         case rel => exact ⟨_, (false), qv, H', ⟨by have := HK1.out; have := HJ10.out; first | omega | exact Nat.le_refl _⟩, ⟨by (with_reducible repeat (first | apply Kd.R_alloc | apply Kd.R_drewN | apply Kd.R_drew)); exact HO_9.out⟩, qB⟩
        rw [if_neg c18] at H
        exact absurd H (by simp)
       rw [if_neg c17] at H
       exact absurd H (by simp)
      clear HC16
      obtain ⟨kq, x75_15, rfl, HA, HJ15, HO_9, HB⟩ := hcut
      cases kq with
      | zero => exact absurd HA.out (by simp [malthouseref09_check.j2])
      | succ kj15 =>
       have H := HA.out
       clear HA
       simp only [malthouseref09_check.j2] at H
       by_cases c25 : x75_15 = true
       ·subst c25
        rw [if_pos rfl] at H
        obtain rfl := Option.some.inj H
        go_wp2
        go_ret
        exact qr
       replace c25 := Bool.eq_false_iff.mpr c25
       subst c25
       rw [if_neg qf] at H
       by_cases c26 : 0 ≤ x10_1
       ·rw [if_pos c26] at H
        have c26b0 : decide (0 ≤ x10_1) = true := decide_eq_true c26
        clear c26
        by_cases c27 : x10_1 < (l0.length : Int)
        ·rw [if_pos c27] at H
         have c27b0 : decide (x10_1 < (l0.length : Int)) = true := decide_eq_true c27
         clear c27
         replace H := qi H
         obtain ⟨t115, A28, H⟩ := H
         by_cases c29 : t115 = 0
         ·rw [if_pos c29] at H
          obtain ⟨c29b0, c29b1⟩ := qe c29
          clear c29
          have H' := Aside0.mk H
          clear H
          have p114 : 0 ≤ (x10_1 : Int) := qa
          have q114 : x10_1 < (l0.length : Int) := qa
          obtain ⟨ad114, A114_2, c114_2, e114, hx114_0, hx114_1, hx114_2, hl114_2, hi114_2⟩ := at_T43 HR0.out x10_1 p114 q114
          obtain rfl : ad104 = ad114 := (by injection e114)
          replace hx114_0 := qc HB.out hx114_0
          replace hx114_1 := qc HB.out hx114_1
          replace hx114_2 := qc HB.out hx114_2
          have HR114_2 := Aside0.mk hi114_2
          have HC114_2 := Aside0.mk hl114_2
          clear hi114_2 hl114_2
          replace p114 := eq_true p114
          replace q114 := eq_true q114
          obtain ⟨Ao30, co30, eo30⟩ := Kd.R_slice HO_9.out
          subst eo30
          go_wp2_with (first | ((with_reducible refine gate_callee (f := 95) rfl ?_); refine goesL_ (some 84) rfl rfl Tryd.func95 (by kernel_rfl) rfl #[.slice A114_2 ((rd_T43 l0 x10_1).f2).length c114_2, .slice Ao30 t101.length co30, .slice A1 l1.length c1, .bool a3] rfl qm ?_; (with_reducible refine (malthouseref09_Code.calls kj15 _ _ ((rd_T43 l0 x10_1).f2) _ _ t101 _ _ l1 a3 t115 _ ?side1 ?side2 ?side3 ?side4 ?side5 ?side6 A28.out).mono ?_); (case side1 => exact qC HR114_2.out); (case side2 => exact HC114_2.out); (case side3 => repeat (first | exact (Kd.R_reads' HO_9.out).2.2 | (with_reducible refine Kd.C_alloc ?_ _) | (with_reducible refine Kd.C_drewN ?_ _) | (with_reducible refine Kd.C_drew ?_))); (case side4 => exact (Kd.R_reads' HO_9.out).2.1); (case side5 => exact qC HR1.out); (case side6 => exact HC1.out); rintro e w31 ⟨rfl, hb⟩; refine ⟨_, rfl, ?_⟩; have n0_ := Aside0.mk (Kd.R_below (by (with_reducible repeat (first | apply Kd.R_alloc | apply Kd.R_drewN | apply Kd.R_drew)); exact HO_9.out) hb); have n1_ := qs hb; clear HO_9; clear HB; have HO_9 := n0_; have HB := n1_; clear n0_ n1_; (try clear hb)))
          go_roundg kj15
          case measure => have := HK1.out; have := HJ10.out; have := HJ15.out; omega
          case rel => exact ⟨(wrap64 (x10_1 + 1)), qv, H', ⟨by have := HK1.out; have := HJ10.out; have := HJ15.out; omega⟩, ⟨by (with_reducible repeat (first | apply Kd.R_alloc | apply Kd.R_drewN | apply Kd.R_drew)); exact HO_9.out⟩, qB⟩
         rw [if_neg c29] at H
         obtain ⟨c29b0, c29b1⟩ := qd c29
         obtain rfl := Option.some.inj H
         have p114 : 0 ≤ (x10_1 : Int) := qa
         have q114 : x10_1 < (l0.length : Int) := qa
         obtain ⟨ad114, A114_2, c114_2, e114, hx114_0, hx114_1, hx114_2, hl114_2, hi114_2⟩ := at_T43 HR0.out x10_1 p114 q114
         obtain rfl : ad104 = ad114 := (by injection e114)
         replace hx114_0 := qc HB.out hx114_0
         replace hx114_1 := qc HB.out hx114_1
         replace hx114_2 := qc HB.out hx114_2
         have HR114_2 := Aside0.mk hi114_2
         have HC114_2 := Aside0.mk hl114_2
         clear hi114_2 hl114_2
         replace p114 := eq_true p114
         replace q114 := eq_true q114
         obtain ⟨Ao32, co32, eo32⟩ := Kd.R_slice HO_9.out
         subst eo32
         go_wp2_with (first | ((with_reducible refine gate_callee (f := 95) rfl ?_); refine goesL_ (some 84) rfl rfl Tryd.func95 (by kernel_rfl) rfl #[.slice A114_2 ((rd_T43 l0 x10_1).f2).length c114_2, .slice Ao32 t101.length co32, .slice A1 l1.length c1, .bool a3] rfl qm ?_; (with_reducible refine (malthouseref09_Code.calls kj15 _ _ ((rd_T43 l0 x10_1).f2) _ _ t101 _ _ l1 a3 t115 _ ?side1 ?side2 ?side3 ?side4 ?side5 ?side6 A28.out).mono ?_); (case side1 => exact qC HR114_2.out); (case side2 => exact HC114_2.out); (case side3 => repeat (first | exact (Kd.R_reads' HO_9.out).2.2 | (with_reducible refine Kd.C_alloc ?_ _) | (with_reducible refine Kd.C_drewN ?_ _) | (with_reducible refine Kd.C_drew ?_))); (case side4 => exact (Kd.R_reads' HO_9.out).2.1); (case side5 => exact qC HR1.out); (case side6 => exact HC1.out); rintro e w33 ⟨rfl, hb⟩; refine ⟨_, rfl, ?_⟩; have n0_ := Aside0.mk (Kd.R_below (by (with_reducible repeat (first | apply Kd.R_alloc | apply Kd.R_drewN | apply Kd.R_drew)); exact HO_9.out) hb); have n1_ := qs hb; clear HO_9; clear HB; have HO_9 := n0_; have HB := n1_; clear n0_ n1_; (try clear hb)))
         go_ret
         exact qr
        rw [if_neg c27] at H
        exact absurd H (by simp)
       rw [if_neg c26] at H
       exact absurd H (by simp)
    rw [if_neg c9] at H
    exact absurd H (by simp)
   rw [if_neg c8] at H
   have c8b0 : decide (x10_1 < (l0.length : Int)) = false := decide_eq_false c8
   clear c8
   obtain rfl := Option.some.inj H
   go_wp2
   go_ret
   exact qr
def malthouseref09_Check.f (k : Nat) (l0 : List (S43)) (l1 : List ByteArray) (l2 : List ByteArray) : Option (Int) := (malthouseref09_check.f k l0 l1 l2 false).bind fun t101 => (some t101)
set_option maxHeartbeats 8000000 in
set_option maxRecDepth 100000 in
theorem malthouseref09_Check.calls (k : Nat) (A0 : Option Addr) (c0 : Nat) (l0 : List (S43)) (A1 : Option Addr) (c1 : Nat) (l1 : List ByteArray) (A2 : Option Addr) (c2 : Nat) (l2 : List ByteArray) (r : Int) (w : World) (hr0 : Kd.C k43 w A0 l0.length l0) (hc0 : l0.length ≤ c0) (hr1 : Kd.C Kd.string w A1 l1.length l1) (hc1 : l1.length ≤ c1) (hr2 : Kd.C Kd.string w A2 l2.length l2) (hc2 : l2.length ≤ c2) (h : malthouseref09_Check.f k l0 l1 l2 = some r) :
    Calls Tryd.prog 26 #[.slice A0 l0.length c0, .slice A1 l1.length c1, .slice A2 l2.length c2] w fun e w' => e = .returned (.int .i64 r) ∧ Below w.heap.size w w' := by
  have HR0 := Aside0.mk hr0
  have HC0 := Aside0.mk hc0
  clear hr0 hc0
  have HR1 := Aside0.mk hr1
  have HC1 := Aside0.mk hc1
  clear hr1 hc1
  have HR2 := Aside0.mk hr2
  have HC2 := Aside0.mk hc2
  clear hr2 hc2
  have HB := Aside0.mk (Below.refl w.heap.size w)
  have H : ((malthouseref09_check.f k l0 l1 l2 false).bind fun t101 => (some t101)) = some r := h
  clear h
  replace H := qi H
  obtain ⟨t101, A4, H⟩ := H
  obtain rfl := Option.some.inj H
  go_enter Tryd.func26, Tryd.ntmps26
  go_wp2_with (first | ((with_reducible refine gate_callee (f := 62) rfl ?_); refine goesL_ (some 10) rfl rfl Tryd.func62 (by kernel_rfl) rfl #[.slice A0 l0.length c0, .slice A1 l1.length c1, .slice A2 l2.length c2, .bool false] rfl qm ?_; (with_reducible refine (malthouseref09_check.calls k _ _ l0 _ _ l1 _ _ l2 false t101 _ ?side1 ?side2 ?side3 ?side4 ?side5 ?side6 A4.out).mono ?_); (case side1 => repeat (first | exact HR0.out | (with_reducible refine Kd.C_alloc ?_ _) | (with_reducible refine Kd.C_drewN ?_ _) | (with_reducible refine Kd.C_drew ?_))); (case side2 => exact HC0.out); (case side3 => repeat (first | exact HR1.out | (with_reducible refine Kd.C_alloc ?_ _) | (with_reducible refine Kd.C_drewN ?_ _) | (with_reducible refine Kd.C_drew ?_))); (case side4 => exact HC1.out); (case side5 => repeat (first | exact HR2.out | (with_reducible refine Kd.C_alloc ?_ _) | (with_reducible refine Kd.C_drewN ?_ _) | (with_reducible refine Kd.C_drew ?_))); (case side6 => exact HC2.out); rintro e w5 ⟨rfl, hb⟩; refine ⟨_, rfl, ?_⟩; have n0_ := qs hb; clear HB; have HB := n0_; clear n0_; (try clear hb)))
  go_ret
  exact qr
end Go.Proofs.YtiaccdaeomaogaaDoor.F
