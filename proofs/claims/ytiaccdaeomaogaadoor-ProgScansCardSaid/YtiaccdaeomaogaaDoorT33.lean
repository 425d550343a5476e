/- Texts of one claim, slimmed and merged by slim.py. -/
import Derived.Test.YtiaccdaeomaogaaDoorT4
import Derived.Test.YtiaccdaeomaogaaDoorT30
import Derived.Test.YtiaccdaeomaogaaDoorT31
import Derived.Test.YtiaccdaeomaogaaDoorT32
namespace Go.Proofs.YtiaccdaeomaogaaDoor.F
open Go.RowKit Go.Proofs.YtiaccdaeomaogaaDoorW.PrintWords Go.Proofs.YtiaccdaeomaogaaDoorW.PrintLast Go.Proofs.YtiaccdaeomaogaaDoorW.PrintMore
attribute [local go_sem] max2_int min2_int max_two min_two max_three min_three max_four min_four   -- for this text's walks alone
set_option linter.unusedVariables false
set_option linter.unusedSimpArgs false
mutual
def malthouseref11_Scan.j0 : Nat → List (S67) → List (S69) → Int → Bool → Int → Int → Int → ByteArray → ByteArray → Int → Int → ByteArray → List (S34) → Int → Option (Int × Int × (List (S72)) × Bool × Int)
  | 0, _, _, _, _, _, _, _, _, _, _, _, _, _, _ => none
  | k + 1, x0, x2, x12, x43, x102000, x102001, x106000, x106001, x106002, x106003, x106004, x106005, x106006, x106007 => if x43 = true then ((malthouseref02_Eval.f k x106003 x106004 x106005 x106006 x2).bind fun bt107 => (if bt107.2 = 0 then (malthouseref11_Scan.j1 k x0 bt107.1 x102000 x102001 x106000 x106001 x106002 x106003 x106004 x106005 x106006 x106007) else (some (x102000, x102001, ([] : List (S72)), false, bt107.2)))) else (malthouseref11_Scan.j1 k x0 x12 x102000 x102001 x106000 x106001 x106002 x106003 x106004 x106005 x106006 x106007)
def malthouseref11_Scan.j1 : Nat → List (S67) → Int → Int → Int → Int → ByteArray → ByteArray → Int → Int → ByteArray → List (S34) → Int → Option (Int × Int × (List (S72)) × Bool × Int)
  | 0, _, _, _, _, _, _, _, _, _, _, _, _ => none
  | k + 1, x0, x12, x102000, x102001, x106000, x106001, x106002, x106003, x106004, x106005, x106006, x106007 => if x106000 = 0 then (malthouseref11_Scan.j2 k x0 x12 ([] : List (S72)) x106000 (x106000 == 0) x102000 x102001 x106000 x106001 x106002 x106003 x106004 x106005 x106006 x106007 (wrap64 (x102000 + 1)) 0) else (if x106000 = 3 then (malthouseref11_Scan.j2 k x0 x12 ([] : List (S72)) x106000 (x106000 == 3) x102000 x102001 x106000 x106001 x106002 x106003 x106004 x106005 x106006 x106007 (wrap64 (x102000 + 1)) 0) else (if x106000 = 4 then (malthouseref11_Scan.j2 k x0 x12 ([] : List (S72)) x106000 (x106000 == 4) x102000 x102001 x106000 x106001 x106002 x106003 x106004 x106005 x106006 x106007 (wrap64 (x102000 + 1)) 0) else (malthouseref11_Scan.j2 k x0 x12 ([] : List (S72)) x106000 (x106000 == 5) x102000 x102001 x106000 x106001 x106002 x106003 x106004 x106005 x106006 x106007 (wrap64 (x102000 + 1)) 0)))
def malthouseref11_Scan.j2 : Nat → List (S67) → Int → List (S72) → Int → Bool → Int → Int → Int → ByteArray → ByteArray → Int → Int → ByteArray → List (S34) → Int → Int → Int → Option (Int × Int × (List (S72)) × Bool × Int)
  | 0, _, _, _, _, _, _, _, _, _, _, _, _, _, _, _, _, _ => none
  | k + 1, x0, x12, x16, x61, x62, x102000, x102001, x106000, x106001, x106002, x106003, x106004, x106005, x106006, x106007, x110000, x110001 => if x62 = true then (some (x110000, x110001, (([(⟨x106000, x106001, x106002, x12⟩ : S72)] : List (S72))), (x110000 == (x0.length : Int)), 0)) else (if x61 = 7 then (some (x110000, x110001, (([(⟨x106000, x106001, (⟨#[]⟩ : ByteArray), 0⟩ : S72)] : List (S72))), (x110000 == (x0.length : Int)), 0)) else (if x61 = 1 then (if x12 = 0 then (some (x102000, x102001, x16, (x102000 == (x0.length : Int)), 0)) else (some (x110000, x110001, x16, (x110000 == (x0.length : Int)), 0))) else (if x61 = 2 then (if x102001 > 1 then (if x102001 = 0 then (if x12 > 0 then (some (x102000, x12, x16, (x102000 == (x0.length : Int)), 0)) else (some (x102000, wrap64 (x102001 - 1), x16, (x102000 == (x0.length : Int)), 0))) else (some (x102000, wrap64 (x102001 - 1), x16, (x102000 == (x0.length : Int)), 0))) else (if x102001 = 0 then (if x12 > 0 then (some (x102000, x12, x16, (x102000 == (x0.length : Int)), 0)) else (some (x110000, x110001, x16, (x110000 == (x0.length : Int)), 0))) else (some (x110000, x110001, x16, (x110000 == (x0.length : Int)), 0)))) else (if x61 = 6 then (if x106007 < 0 then (some (x102000, x102001, ([] : List (S72)), false, 1)) else (if x106007 > (x0.length : Int) then (some (x102000, x102001, ([] : List (S72)), false, 1)) else (some (x106007, 0, x16, (x106007 == (x0.length : Int)), 0)))) else (some (x110000, x110001, x16, (x110000 == (x0.length : Int)), 0))))))
end
def malthouseref11_Scan.f (k : Nat) (l0 : List (S67)) (a1_0 : Int) (a1_1 : Int) (l2 : List (S69)) : Option (Int × Int × (List (S72)) × Bool × Int) := (malthouseref11_Right.f k l0 a1_0 a1_1).bind fun t103 => (if t103 = true then (if a1_0 = (l0.length : Int) then (some (a1_0, a1_1, ([] : List (S72)), true, 0)) else (if 0 ≤ a1_0 then (if a1_0 < (l0.length : Int) then ((malthouseref11_reckons.f ((rd_T67 l0 a1_0).f0)).bind fun t106 => (if t106 = true then (malthouseref11_Scan.j0 k l0 l2 0 (a1_1 == 0) a1_0 a1_1 ((rd_T67 l0 a1_0).f0) ((rd_T67 l0 a1_0).f1) ((rd_T67 l0 a1_0).f2) ((rd_T67 l0 a1_0).f3.f0) ((rd_T67 l0 a1_0).f3.f1) ((rd_T67 l0 a1_0).f3.f2) ((rd_T67 l0 a1_0).f3.f3) ((rd_T67 l0 a1_0).f4)) else (malthouseref11_Scan.j0 k l0 l2 0 false a1_0 a1_1 ((rd_T67 l0 a1_0).f0) ((rd_T67 l0 a1_0).f1) ((rd_T67 l0 a1_0).f2) ((rd_T67 l0 a1_0).f3.f0) ((rd_T67 l0 a1_0).f3.f1) ((rd_T67 l0 a1_0).f3.f2) ((rd_T67 l0 a1_0).f3.f3) ((rd_T67 l0 a1_0).f4)))) else (none)) else (none))) else (some (0, 0, ([] : List (S72)), false, 1)))
def malthouseref11_Scan.T36 : Bool × List (List Nat × List Nat) := (true, [([], []), ([], []), ([], []), ([2], [2]), ([], []), ([4], [4]), ([3, 5], [3, 5]), ([0, 0], [0]), ([1, 7, 0, 1, 7], [1]), ([6, 8, 0, 1, 2, 3, 4, 5, 6, 7, 8], [6]), ([9, 0, 1, 2, 3, 4, 5, 6, 7, 8, 9], [])])
def malthouseref11_Scan.B36 : List Nat := [0, 0, 0, 4, 0, 16, 60, 1, 131, 511, 1023]
theorem malthouseref11_Scan.tab36 : rtab .any (opsOf Tryd.f39 36) = malthouseref11_Scan.T36 := by kernel_rfl
theorem malthouseref11_Scan.bits36 : waitsOk malthouseref11_Scan.T36.2 malthouseref11_Scan.B36 = true := by kernel_rfl
set_option maxHeartbeats 8000000 in
set_option maxRecDepth 100000 in
theorem malthouseref11_Scan.calls (k : Nat) (A0 : Option Addr) (c0 : Nat) (l0 : List (S67)) (a1_0 : Int) (a1_1 : Int) (A2 : Option Addr) (c2 : Nat) (l2 : List (S69)) (r1 : Int) (r2 : Int) (r3 : List (S72)) (r4 : Bool) (r5 : Int) (w : World) (hr0 : Kd.C k67 w A0 l0.length l0) (hc0 : l0.length ≤ c0) (hr2 : Kd.C k69 w A2 l2.length l2) (hc2 : l2.length ≤ c2) (h : malthouseref11_Scan.f k l0 a1_0 a1_1 l2 = some (r1, r2, r3, r4, r5)) :
  Calls Tryd.prog 39 #[.slice A0 l0.length c0, .agg #[.int .i64 a1_0, .int .i64 a1_1], .slice A2 l2.length c2] w fun e w' => ∃ v2_ : Value, e = .returned (.tuple #[.agg #[.int .i64 r1, .int .i64 r2], v2_, .bool r4, .int .i64 r5]) ∧ Kd.R k72 72 w' w.heap.size (fun _ => True) v2_ r3 ∧ Below w.heap.size w w' := by
 have hu57 := Tryd.underlying57
 have hu67 := Tryd.underlying67
 have hu34 := Tryd.underlying34
 have hu72 := Tryd.underlying72
 have HR0 := Aside0.mk hr0
 have HC0 := Aside0.mk hc0
 clear hr0 hc0
 have HR2 := Aside0.mk hr2
 have HC2 := Aside0.mk hc2
 clear hr2 hc2
 have HB := Aside0.mk (Below.refl w.heap.size w)
 have H : ((malthouseref11_Right.f k l0 a1_0 a1_1).bind fun t103 => (if t103 = true then (if a1_0 = (l0.length : Int) then (some (a1_0, a1_1, ([] : List (S72)), true, 0)) else (if 0 ≤ a1_0 then (if a1_0 < (l0.length : Int) then ((malthouseref11_reckons.f ((rd_T67 l0 a1_0).f0)).bind fun t106 => (if t106 = true then (malthouseref11_Scan.j0 k l0 l2 0 (a1_1 == 0) a1_0 a1_1 ((rd_T67 l0 a1_0).f0) ((rd_T67 l0 a1_0).f1) ((rd_T67 l0 a1_0).f2) ((rd_T67 l0 a1_0).f3.f0) ((rd_T67 l0 a1_0).f3.f1) ((rd_T67 l0 a1_0).f3.f2) ((rd_T67 l0 a1_0).f3.f3) ((rd_T67 l0 a1_0).f4)) else (malthouseref11_Scan.j0 k l0 l2 0 false a1_0 a1_1 ((rd_T67 l0 a1_0).f0) ((rd_T67 l0 a1_0).f1) ((rd_T67 l0 a1_0).f2) ((rd_T67 l0 a1_0).f3.f0) ((rd_T67 l0 a1_0).f3.f1) ((rd_T67 l0 a1_0).f3.f2) ((rd_T67 l0 a1_0).f3.f3) ((rd_T67 l0 a1_0).f4)))) else (none)) else (none))) else (some (0, 0, ([] : List (S72)), false, 1)))) = some (r1, r2, r3, r4, r5) := h
 clear h
 replace H := qi H
 obtain ⟨t103, A4, H⟩ := H
 by_cases c5 : t103 = true
 ·subst c5
  rw [if_pos rfl] at H
  by_cases c6 : a1_0 = (l0.length : Int)
  ·rw [if_pos c6] at H
   obtain ⟨c6b0, c6b1⟩ := qe c6
   clear c6
   simp only [Option.some.injEq, Prod.mk.injEq] at H
   obtain ⟨rfl, rfl, rfl, rfl, rfl⟩ := H
   go_enter Tryd.func39, Tryd.ntmps39
   go_wp2_with (first | ((with_reducible refine gate_dst (N := 4) rfl ?_); (try (refine gate_guard (by rfl) ?_; dsimp only)); refine box_event ?hg (N := 4) ?hd (cs := #[.int .i64 a1_0, .int .i64 a1_1]) (t := 57) ?hr ?_; (case hd => rfl); (case hg => rfl); (case hr => first | (go_simp; done) | (go_simp; rfl)); intro gb101 hg w7 hbox hb; have n0_ := qs hb; have n1_ := Aside0.mk (hbox); have n2_ := Aside0.mk ((by rw [hg]; exact (below_size qb) : w.heap.size ≤ gb101)); have n3_ := Aside0.mk ((by rw [hg]; exact (below_size qb) : w.heap.size ≤ gb101)); clear HB; have HB := n0_; have BK101 := n1_; have GW101 := n2_; have GE101 := n3_; clear n0_ n1_ n2_ n3_; clear hb hbox hg) | ((with_reducible refine gate_dst (N := 6) rfl ?_); (try (refine gate_guard (by rfl) ?_; dsimp only)); refine box_event ?hg (N := 6) ?hd (cs := #[.int .i64 0, .int .i64 0]) (t := 57) ?hr ?_; (case hd => rfl); (case hg => rfl); (case hr => first | (go_simp; done) | (go_simp; rfl)); intro gb102 hg w8 hbox hb; have n0_ := qn101 (g := gb101) hb; have n1_ := qs hb; have n2_ := Aside0.mk (hbox); have n3_ := Aside0.mk ((by rw [hg]; exact (below_size qb) : w.heap.size ≤ gb102)); have n4_ := Aside0.mk ((by rw [hg]; exact (below_size qb) : w.heap.size ≤ gb102)); have n5_ := Aside0.mk ((by rw [hg]; exact Nat.ne_of_lt (blk_lt (g := gb101) (o := .cells #[.int .i64 a1_0, .int .i64 a1_1] 57 (0, 0)) (by (with_reducible repeat (first | refine blk_drewN ?_ _ | refine blk_drew ?_ | refine blk_alloc ?_ _)); exact BK101.out)) : gb101 ≠ gb102)); have n6_ := Aside0.mk ((by rw [hg]; exact Nat.ne_of_gt (blk_lt (g := gb101) (o := .cells #[.int .i64 a1_0, .int .i64 a1_1] 57 (0, 0)) (by (with_reducible repeat (first | refine blk_drewN ?_ _ | refine blk_drew ?_ | refine blk_alloc ?_ _)); exact BK101.out)) : gb102 ≠ gb101)); clear BK101; clear HB; have BK101 := n0_; have HB := n1_; have BK102 := n2_; have GW102 := n3_; have GE102 := n4_; have NB101_102 := n5_; have NB102_101 := n6_; clear n0_ n1_ n2_ n3_ n4_ n5_ n6_; clear hb hbox hg; have hnb9 := NB101_102.out; have hnc9 := NB102_101.out; obtain ⟨_, _, _, _⟩ := q2 BK101.out) | ((with_reducible refine gate_callee (f := 42) rfl ?_); refine goesL_ (some 20) rfl rfl Tryd.func42 (by kernel_rfl) rfl #[.slice A0 l0.length c0, .agg #[.int .i64 a1_0, .int .i64 a1_1]] rfl qm ?_; (with_reducible refine (malthouseref11_Right.calls k _ _ l0 a1_0 a1_1 true _ ?side1 ?side2 A4.out).mono ?_); (case side1 => exact qC HR0.out); (case side2 => exact HC0.out); rintro e w11 ⟨rfl, hb⟩; refine ⟨_, rfl, ?_⟩; have n0_ := qn101 (g := gb101) hb; have n1_ := qn102 (g := gb102) hb; have n2_ := qs hb; clear BK101; clear BK102; clear HB; have BK101 := n0_; have BK102 := n1_; have HB := n2_; clear n0_ n1_ n2_; (try clear hb); obtain ⟨_, _, _, _⟩ := q2 BK101.out; obtain ⟨_, _, _, _⟩ := q2 BK102.out))
   refine bodyPost_ret (results_list (rs := [.cell 6 57, .tmp 7, .tmp 8, .tmp 9]) rfl (by simp) (.cell gb102 57 #[.int .i64 a1_0, .int .i64 a1_1] (0, 0) _ rfl qy102 Tryd.underlying57 rfl (by kernel_rfl) (.tmp (.tmp (.tmp .nil))))) rfl ?_
   exact ⟨_, by first | rfl | (simp [errW_none, errW_some] <;> rfl) | (simp [*, errW_none, errW_some] <;> rfl), by first | exact Kd.R_nil _ _ _ _ _ | exact Kd.N_nil _ _ _ _ _ | exact Kd.V_nil _ _ _ _ _ | exact Kd.Q_nil _ _ _ _ _ | exact Kd.S_nil _ _ _ _ _, qb⟩
  rw [if_neg c6] at H
  obtain ⟨c6b0, c6b1⟩ := qd c6
  by_cases c14 : 0 ≤ a1_0
  ·rw [if_pos c14] at H
   have c14b0 : decide (0 ≤ a1_0) = true := decide_eq_true c14
   clear c14
   by_cases c15 : a1_0 < (l0.length : Int)
   ·rw [if_pos c15] at H
    have c15b0 : decide (a1_0 < (l0.length : Int)) = true := decide_eq_true c15
    clear c15
    replace H := qi H
    obtain ⟨t106, A16, H⟩ := H
    have HC17 := Aside0.mk H
    clear H
    go_enter Tryd.func39, Tryd.ntmps39
    go_upto_region 9 with (first | ((with_reducible refine gate_dst (N := 4) rfl ?_); (try (refine gate_guard (by rfl) ?_; dsimp only)); refine box_event ?hg (N := 4) ?hd (cs := #[.int .i64 a1_0, .int .i64 a1_1]) (t := 57) ?hr ?_; (case hd => rfl); (case hg => rfl); (case hr => first | (go_simp; done) | (go_simp; rfl)); intro gb101 hg w18 hbox hb; have n0_ := qs hb; have n1_ := Aside0.mk (hbox); have n2_ := Aside0.mk ((by rw [hg]; exact (below_size qb) : w.heap.size ≤ gb101)); have n3_ := Aside0.mk ((by rw [hg]; exact (below_size qb) : w.heap.size ≤ gb101)); clear HB; have HB := n0_; have BK101 := n1_; have GW101 := n2_; have GE101 := n3_; clear n0_ n1_ n2_ n3_; clear hb hbox hg) | ((with_reducible refine gate_dst (N := 6) rfl ?_); (try (refine gate_guard (by rfl) ?_; dsimp only)); refine box_event ?hg (N := 6) ?hd (cs := #[.int .i64 0, .int .i64 0]) (t := 57) ?hr ?_; (case hd => rfl); (case hg => rfl); (case hr => first | (go_simp; done) | (go_simp; rfl)); intro gb102 hg w19 hbox hb; have n0_ := qn101 (g := gb101) hb; have n1_ := qs hb; have n2_ := Aside0.mk (hbox); have n3_ := Aside0.mk ((by rw [hg]; exact (below_size qb) : w.heap.size ≤ gb102)); have n4_ := Aside0.mk ((by rw [hg]; exact (below_size qb) : w.heap.size ≤ gb102)); have n5_ := Aside0.mk ((by rw [hg]; exact Nat.ne_of_lt (blk_lt (g := gb101) (o := .cells #[.int .i64 a1_0, .int .i64 a1_1] 57 (0, 0)) (by (with_reducible repeat (first | refine blk_drewN ?_ _ | refine blk_drew ?_ | refine blk_alloc ?_ _)); exact BK101.out)) : gb101 ≠ gb102)); have n6_ := Aside0.mk ((by rw [hg]; exact Nat.ne_of_gt (blk_lt (g := gb101) (o := .cells #[.int .i64 a1_0, .int .i64 a1_1] 57 (0, 0)) (by (with_reducible repeat (first | refine blk_drewN ?_ _ | refine blk_drew ?_ | refine blk_alloc ?_ _)); exact BK101.out)) : gb102 ≠ gb101)); clear BK101; clear HB; have BK101 := n0_; have HB := n1_; have BK102 := n2_; have GW102 := n3_; have GE102 := n4_; have NB101_102 := n5_; have NB102_101 := n6_; clear n0_ n1_ n2_ n3_ n4_ n5_ n6_; clear hb hbox hg; have hnb20 := NB101_102.out; have hnc20 := NB102_101.out; obtain ⟨_, _, _, _⟩ := q2 BK101.out) | ((with_reducible refine gate_callee (f := 42) rfl ?_); refine goesL_ (some 20) rfl rfl Tryd.func42 (by kernel_rfl) rfl #[.slice A0 l0.length c0, .agg #[.int .i64 a1_0, .int .i64 a1_1]] rfl qm ?_; (with_reducible refine (malthouseref11_Right.calls k _ _ l0 a1_0 a1_1 true _ ?side1 ?side2 A4.out).mono ?_); (case side1 => exact qC HR0.out); (case side2 => exact HC0.out); rintro e w22 ⟨rfl, hb⟩; refine ⟨_, rfl, ?_⟩; have n0_ := qn101 (g := gb101) hb; have n1_ := qn102 (g := gb102) hb; have n2_ := qs hb; clear BK101; clear BK102; clear HB; have BK101 := n0_; have BK102 := n1_; have HB := n2_; clear n0_ n1_ n2_; (try clear hb); obtain ⟨_, _, _, _⟩ := q2 BK101.out; have p104 : 0 ≤ (a1_0 : Int) := qa; have q104 : a1_0 < (l0.length : Int) := qa; obtain ⟨ad104, A104_6, c104_6, e104, hx104_0, hx104_1, hx104_2, hx104_3, hx104_4, hx104_5, hx104_6, hx104_7, hl104_6, hi104_6⟩ := at_T67 HR0.out a1_0 p104 q104; cases e104; replace hx104_0 := qc HB.out hx104_0; replace hx104_1 := qc HB.out hx104_1; replace hx104_2 := qc HB.out hx104_2; replace hx104_3 := qc HB.out hx104_3; replace hx104_4 := qc HB.out hx104_4; replace hx104_5 := qc HB.out hx104_5; replace hx104_6 := qc HB.out hx104_6; replace hx104_7 := qc HB.out hx104_7; have HR104_6 := Aside0.mk hi104_6; have HC104_6 := Aside0.mk hl104_6; clear hi104_6 hl104_6; replace p104 := eq_true p104; replace q104 := eq_true q104) | ((with_reducible refine gate_dst (N := 11) rfl ?_); (try (refine gate_guard (by rfl) ?_; dsimp only)); refine box_event ?hg (N := 11) ?hd (cs := #[.int .i64 0, .string (⟨#[]⟩ : ByteArray), .string (⟨#[]⟩ : ByteArray), .int .i64 0, .int .i64 0, .string (⟨#[]⟩ : ByteArray), .slice none 0 0, .int .i64 0]) (t := 67) ?hr ?_; (case hd => rfl); (case hg => rfl); (case hr => first | (go_simp; done) | (go_simp; rfl)); intro gb105 hg w24 hbox hb; have n0_ := qn101 (g := gb101) hb; have n1_ := qn102 (g := gb102) hb; have n2_ := qs hb; have n3_ := Aside0.mk (hbox); have n4_ := Aside0.mk ((by rw [hg]; exact (below_size qb) : w.heap.size ≤ gb105)); have n5_ := Aside0.mk ((by rw [hg]; exact (below_size qb) : w.heap.size ≤ gb105)); have n6_ := Aside0.mk ((by rw [hg]; exact Nat.ne_of_lt (blk_lt (g := gb101) (o := .cells #[.int .i64 a1_0, .int .i64 a1_1] 57 (0, 0)) (by (with_reducible repeat (first | refine blk_drewN ?_ _ | refine blk_drew ?_ | refine blk_alloc ?_ _)); exact BK101.out)) : gb101 ≠ gb105)); have n7_ := Aside0.mk ((by rw [hg]; exact Nat.ne_of_gt (blk_lt (g := gb101) (o := .cells #[.int .i64 a1_0, .int .i64 a1_1] 57 (0, 0)) (by (with_reducible repeat (first | refine blk_drewN ?_ _ | refine blk_drew ?_ | refine blk_alloc ?_ _)); exact BK101.out)) : gb105 ≠ gb101)); have n8_ := Aside0.mk ((by rw [hg]; exact Nat.ne_of_lt (blk_lt (g := gb102) (o := .cells #[.int .i64 0, .int .i64 0] 57 (0, 0)) (by (with_reducible repeat (first | refine blk_drewN ?_ _ | refine blk_drew ?_ | refine blk_alloc ?_ _)); exact BK102.out)) : gb102 ≠ gb105)); have n9_ := Aside0.mk ((by rw [hg]; exact Nat.ne_of_gt (blk_lt (g := gb102) (o := .cells #[.int .i64 0, .int .i64 0] 57 (0, 0)) (by (with_reducible repeat (first | refine blk_drewN ?_ _ | refine blk_drew ?_ | refine blk_alloc ?_ _)); exact BK102.out)) : gb105 ≠ gb102)); clear BK101; clear BK102; clear HB; have BK101 := n0_; have BK102 := n1_; have HB := n2_; have BK105 := n3_; have GW105 := n4_; have GE105 := n5_; have NB101_105 := n6_; have NB105_101 := n7_; have NB102_105 := n8_; have NB105_102 := n9_; clear n0_ n1_ n2_ n3_ n4_ n5_ n6_ n7_ n8_ n9_; clear hb hbox hg; have hnb25 := NB105_101.out; have hnc25 := NB101_105.out; have hnb26 := NB105_102.out; have hnc26 := NB102_105.out; obtain ⟨_, _, _, _, _, _, _, _, _, _, _, _, _, _, _, _⟩ := q8 BK105.out) | ((with_reducible refine gate_callee (f := 71) rfl ?_); refine goesL_ (some 37) rfl rfl Tryd.func71 (by kernel_rfl) rfl #[.int .i64 ((rd_T67 l0 a1_0).f0)] rfl qm ?_; (with_reducible refine (malthouseref11_reckons.calls ((rd_T67 l0 a1_0).f0) t106 _ A16.out).mono ?_); rintro e w' ⟨rfl, ⟨nd, rfl⟩⟩; refine ⟨_, rfl, ?_⟩))
    (try simp only [Act.put, List.setIfInBounds_toArray, List.set_cons_zero, List.set_cons_succ])
    go_cut [43] (fun v43 wc => ∃ (kq : Nat) (x43_16 : Bool), v43 = .bool x43_16 ∧ Aside0 (malthouseref11_Scan.j0 kq l0 l2 0 x43_16 a1_0 a1_1 ((rd_T67 l0 a1_0).f0) ((rd_T67 l0 a1_0).f1) ((rd_T67 l0 a1_0).f2) ((rd_T67 l0 a1_0).f3.f0) ((rd_T67 l0 a1_0).f3.f1) ((rd_T67 l0 a1_0).f3.f2) ((rd_T67 l0 a1_0).f3.f3) ((rd_T67 l0 a1_0).f4) = some (r1, r2, r3, r4, r5)) ∧ Aside0 (kq ≤ k) ∧ Aside0 (wc.heap[gb101]? = some (.cells #[.int .i64 a1_0, .int .i64 a1_1] 57 (0, 0))) ∧ Aside0 (wc.heap[gb102]? = some (.cells #[.int .i64 0, .int .i64 0] 57 (0, 0))) ∧ Aside0 (wc.heap[gb105]? = some (.cells #[.int .i64 ((rd_T67 l0 a1_0).f0), .string ((rd_T67 l0 a1_0).f1), .string ((rd_T67 l0 a1_0).f2), .int .i64 ((rd_T67 l0 a1_0).f3.f0), .int .i64 ((rd_T67 l0 a1_0).f3.f1), .string ((rd_T67 l0 a1_0).f3.f2), (.slice A104_6 ((rd_T67 l0 a1_0).f3.f3).length c104_6), .int .i64 ((rd_T67 l0 a1_0).f4)] 67 (0, 0))) ∧ Aside0 (Below w.heap.size w wc))
    case first =>
     have H := HC17.out
     clear HC17
     by_cases c28 : t106 = true
     ·subst c28
      rw [if_pos rfl] at H
      have H' := Aside0.mk H
      clear H
      have hnb29 := NB101_102.out
      have hnc29 := NB102_101.out
      have hnb30 := NB101_105.out
      have hnc30 := NB105_101.out
      obtain ⟨_, _, _, _⟩ := q2 BK101.out
      go_wp2
      go_meet
      case rel => exact ⟨_, ((a1_1 == 0)), qv, H', ql, ⟨by (with_reducible repeat (first | refine blk_drewN ?_ _ | refine blk_drew ?_ | refine blk_alloc ?_ _)); refine blk_far ?_ NB101_105.out _; (with_reducible repeat (first | refine blk_drewN ?_ _ | refine blk_drew ?_ | refine blk_alloc ?_ _)); refine blk_far ?_ NB101_105.out _; (with_reducible repeat (first | refine blk_drewN ?_ _ | refine blk_drew ?_ | refine blk_alloc ?_ _)); refine blk_far ?_ NB101_105.out _; (with_reducible repeat (first | refine blk_drewN ?_ _ | refine blk_drew ?_ | refine blk_alloc ?_ _)); refine blk_far ?_ NB101_105.out _; (with_reducible repeat (first | refine blk_drewN ?_ _ | refine blk_drew ?_ | refine blk_alloc ?_ _)); refine blk_far ?_ NB101_105.out _; (with_reducible repeat (first | refine blk_drewN ?_ _ | refine blk_drew ?_ | refine blk_alloc ?_ _)); refine blk_far ?_ NB101_105.out _; (with_reducible repeat (first | refine blk_drewN ?_ _ | refine blk_drew ?_ | refine blk_alloc ?_ _)); refine blk_far ?_ NB101_105.out _; (with_reducible repeat (first | refine blk_drewN ?_ _ | refine blk_drew ?_ | refine blk_alloc ?_ _)); refine blk_far ?_ NB101_105.out _; (with_reducible repeat (first | refine blk_drewN ?_ _ | refine blk_drew ?_ | refine blk_alloc ?_ _)); exact BK101.out⟩, ⟨by (with_reducible repeat (first | refine blk_drewN ?_ _ | refine blk_drew ?_ | refine blk_alloc ?_ _)); refine blk_far ?_ NB102_105.out _; (with_reducible repeat (first | refine blk_drewN ?_ _ | refine blk_drew ?_ | refine blk_alloc ?_ _)); refine blk_far ?_ NB102_105.out _; (with_reducible repeat (first | refine blk_drewN ?_ _ | refine blk_drew ?_ | refine blk_alloc ?_ _)); refine blk_far ?_ NB102_105.out _; (with_reducible repeat (first | refine blk_drewN ?_ _ | refine blk_drew ?_ | refine blk_alloc ?_ _)); refine blk_far ?_ NB102_105.out _; (with_reducible repeat (first | refine blk_drewN ?_ _ | refine blk_drew ?_ | refine blk_alloc ?_ _)); refine blk_far ?_ NB102_105.out _; (with_reducible repeat (first | refine blk_drewN ?_ _ | refine blk_drew ?_ | refine blk_alloc ?_ _)); refine blk_far ?_ NB102_105.out _; (with_reducible repeat (first | refine blk_drewN ?_ _ | refine blk_drew ?_ | refine blk_alloc ?_ _)); refine blk_far ?_ NB102_105.out _; (with_reducible repeat (first | refine blk_drewN ?_ _ | refine blk_drew ?_ | refine blk_alloc ?_ _)); refine blk_far ?_ NB102_105.out _; (with_reducible repeat (first | refine blk_drewN ?_ _ | refine blk_drew ?_ | refine blk_alloc ?_ _)); exact BK102.out⟩, qY105, qB⟩
     replace c28 := Bool.eq_false_iff.mpr c28
     subst c28
     rw [if_neg qf] at H
     have H' := Aside0.mk H
     clear H
     go_wp2
     go_meet
     case rel => exact ⟨_, (false), qv, H', ql, ⟨by (with_reducible repeat (first | refine blk_drewN ?_ _ | refine blk_drew ?_ | refine blk_alloc ?_ _)); refine blk_far ?_ NB101_105.out _; (with_reducible repeat (first | refine blk_drewN ?_ _ | refine blk_drew ?_ | refine blk_alloc ?_ _)); refine blk_far ?_ NB101_105.out _; (with_reducible repeat (first | refine blk_drewN ?_ _ | refine blk_drew ?_ | refine blk_alloc ?_ _)); refine blk_far ?_ NB101_105.out _; (with_reducible repeat (first | refine blk_drewN ?_ _ | refine blk_drew ?_ | refine blk_alloc ?_ _)); refine blk_far ?_ NB101_105.out _; (with_reducible repeat (first | refine blk_drewN ?_ _ | refine blk_drew ?_ | refine blk_alloc ?_ _)); refine blk_far ?_ NB101_105.out _; (with_reducible repeat (first | refine blk_drewN ?_ _ | refine blk_drew ?_ | refine blk_alloc ?_ _)); refine blk_far ?_ NB101_105.out _; (with_reducible repeat (first | refine blk_drewN ?_ _ | refine blk_drew ?_ | refine blk_alloc ?_ _)); refine blk_far ?_ NB101_105.out _; (with_reducible repeat (first | refine blk_drewN ?_ _ | refine blk_drew ?_ | refine blk_alloc ?_ _)); refine blk_far ?_ NB101_105.out _; (with_reducible repeat (first | refine blk_drewN ?_ _ | refine blk_drew ?_ | refine blk_alloc ?_ _)); exact BK101.out⟩, ⟨by (with_reducible repeat (first | refine blk_drewN ?_ _ | refine blk_drew ?_ | refine blk_alloc ?_ _)); refine blk_far ?_ NB102_105.out _; (with_reducible repeat (first | refine blk_drewN ?_ _ | refine blk_drew ?_ | refine blk_alloc ?_ _)); refine blk_far ?_ NB102_105.out _; (with_reducible repeat (first | refine blk_drewN ?_ _ | refine blk_drew ?_ | refine blk_alloc ?_ _)); refine blk_far ?_ NB102_105.out _; (with_reducible repeat (first | refine blk_drewN ?_ _ | refine blk_drew ?_ | refine blk_alloc ?_ _)); refine blk_far ?_ NB102_105.out _; (with_reducible repeat (first | refine blk_drewN ?_ _ | refine blk_drew ?_ | refine blk_alloc ?_ _)); refine blk_far ?_ NB102_105.out _; (with_reducible repeat (first | refine blk_drewN ?_ _ | refine blk_drew ?_ | refine blk_alloc ?_ _)); refine blk_far ?_ NB102_105.out _; (with_reducible repeat (first | refine blk_drewN ?_ _ | refine blk_drew ?_ | refine blk_alloc ?_ _)); refine blk_far ?_ NB102_105.out _; (with_reducible repeat (first | refine blk_drewN ?_ _ | refine blk_drew ?_ | refine blk_alloc ?_ _)); refine blk_far ?_ NB102_105.out _; (with_reducible repeat (first | refine blk_drewN ?_ _ | refine blk_drew ?_ | refine blk_alloc ?_ _)); exact BK102.out⟩, qY105, qB⟩
    clear HC17
    obtain ⟨kq, x43_16, rfl, HA, HJ16, BK101, BK102, BK105, HB⟩ := hcut
    cases kq with
    | zero => exact absurd HA.out (by simp [malthouseref11_Scan.j0])
    | succ kj16 =>
     have H := HA.out
     clear HA
     simp only [malthouseref11_Scan.j0] at H
     have HC32 := Aside0.mk H
     clear H
     go_upto_if 43 with (fail)
     go_cut [12] (fun v12 wc => ∃ (kq : Nat) (x12_31 : Int) (x103000_31 : Int) (x103001_31 : Int), v12 = .int .i64 x12_31 ∧ Aside0 (malthouseref11_Scan.j1 kq l0 x12_31 a1_0 a1_1 ((rd_T67 l0 a1_0).f0) ((rd_T67 l0 a1_0).f1) ((rd_T67 l0 a1_0).f2) ((rd_T67 l0 a1_0).f3.f0) ((rd_T67 l0 a1_0).f3.f1) ((rd_T67 l0 a1_0).f3.f2) ((rd_T67 l0 a1_0).f3.f3) ((rd_T67 l0 a1_0).f4) = some (r1, r2, r3, r4, r5)) ∧ Aside0 (kq ≤ kj16) ∧ Aside0 (wc.heap[gb101]? = some (.cells #[.int .i64 a1_0, .int .i64 a1_1] 57 (0, 0))) ∧ Aside0 (wc.heap[gb102]? = some (.cells #[.int .i64 x103000_31, .int .i64 x103001_31] 57 (0, 0))) ∧ Aside0 (wc.heap[gb105]? = some (.cells #[.int .i64 ((rd_T67 l0 a1_0).f0), .string ((rd_T67 l0 a1_0).f1), .string ((rd_T67 l0 a1_0).f2), .int .i64 ((rd_T67 l0 a1_0).f3.f0), .int .i64 ((rd_T67 l0 a1_0).f3.f1), .string ((rd_T67 l0 a1_0).f3.f2), (.slice A104_6 ((rd_T67 l0 a1_0).f3.f3).length c104_6), .int .i64 ((rd_T67 l0 a1_0).f4)] 67 (0, 0))) ∧ Aside0 (Below w.heap.size w wc))
     case first =>
      have H := HC32.out
      clear HC32
      by_cases c33 : x43_16 = true
      ·subst c33
       rw [if_pos rfl] at H
       replace H := qi H
       obtain ⟨⟨t107, t108⟩, A34, H⟩ := H
       replace H : (if t108 = 0 then (malthouseref11_Scan.j1 kj16 l0 t107 a1_0 a1_1 ((rd_T67 l0 a1_0).f0) ((rd_T67 l0 a1_0).f1) ((rd_T67 l0 a1_0).f2) ((rd_T67 l0 a1_0).f3.f0) ((rd_T67 l0 a1_0).f3.f1) ((rd_T67 l0 a1_0).f3.f2) ((rd_T67 l0 a1_0).f3.f3) ((rd_T67 l0 a1_0).f4)) else (some (a1_0, a1_1, ([] : List (S72)), false, t108))) = some (r1, r2, r3, r4, r5) := H
       by_cases c35 : t108 = 0
       ·rw [if_pos c35] at H
        obtain ⟨c35b0, c35b1⟩ := qe c35
        clear c35
        (first | rw [c35b0] | (simp only [i64_w, i32_w]; rw [c35b0]) | skip)
        have H' := Aside0.mk H
        clear H
        have hnb36 := NB105_101.out
        have hnc36 := NB101_105.out
        have hnb37 := NB105_102.out
        have hnc37 := NB102_105.out
        obtain ⟨_, _, _, _, _, _, _, _, _, _, _, _, _, _, _, _⟩ := q8 BK105.out
        go_wp2_with (first | ((with_reducible refine gate_callee (f := 72) rfl ?_); refine goesL_ (some 48) rfl rfl Tryd.func72 (by kernel_rfl) rfl #[.agg #[.int .i64 ((rd_T67 l0 a1_0).f3.f0), .int .i64 ((rd_T67 l0 a1_0).f3.f1), .string ((rd_T67 l0 a1_0).f3.f2), .slice A104_6 ((rd_T67 l0 a1_0).f3.f3).length c104_6], .slice A2 l2.length c2] rfl qm ?_; (with_reducible refine (malthouseref02_Eval.calls kj16 ((rd_T67 l0 a1_0).f3.f0) ((rd_T67 l0 a1_0).f3.f1) ((rd_T67 l0 a1_0).f3.f2) _ _ ((rd_T67 l0 a1_0).f3.f3) _ _ l2 t107 t108 _ ?side1 ?side2 ?side3 ?side4 A34.out).mono ?_); (case side1 => exact qC HR104_6.out); (case side2 => exact HC104_6.out); (case side3 => exact qC HR2.out); (case side4 => exact HC2.out); rintro e w39 ⟨rfl, hb⟩; refine ⟨_, rfl, ?_⟩; have n0_ := qn101 (g := gb101) hb; have n1_ := qn102 (g := gb102) hb; have n2_ := qn105 (g := gb105) hb; have n3_ := qs hb; clear BK101; clear BK102; clear BK105; clear HB; have BK101 := n0_; have BK102 := n1_; have BK105 := n2_; have HB := n3_; clear n0_ n1_ n2_ n3_; (try clear hb)))
        go_meet
        case rel => exact ⟨_, (t107), (0), (0), qv, H', ⟨by have := HJ16.out; first | omega | exact Nat.le_refl _⟩, qk101, qk102, qk105, qB⟩
       rw [if_neg c35] at H
       obtain ⟨c35b0, c35b1⟩ := qd c35
       (first | rw [c35b0] | (simp only [i64_w, i32_w]; rw [c35b0]) | skip)
       simp only [Option.some.injEq, Prod.mk.injEq] at H
       obtain ⟨rfl, rfl, rfl, rfl, rfl⟩ := H
       have hnb40 := NB105_101.out
       have hnc40 := NB101_105.out
       have hnb41 := NB105_102.out
       have hnc41 := NB102_105.out
       obtain ⟨_, _, _, _, _, _, _, _, _, _, _, _, _, _, _, _⟩ := q8 BK105.out
       go_wp2_with (first | ((with_reducible refine gate_callee (f := 72) rfl ?_); refine goesL_ (some 48) rfl rfl Tryd.func72 (by kernel_rfl) rfl #[.agg #[.int .i64 ((rd_T67 l0 a1_0).f3.f0), .int .i64 ((rd_T67 l0 a1_0).f3.f1), .string ((rd_T67 l0 a1_0).f3.f2), .slice A104_6 ((rd_T67 l0 a1_0).f3.f3).length c104_6], .slice A2 l2.length c2] rfl qm ?_; (with_reducible refine (malthouseref02_Eval.calls kj16 ((rd_T67 l0 a1_0).f3.f0) ((rd_T67 l0 a1_0).f3.f1) ((rd_T67 l0 a1_0).f3.f2) _ _ ((rd_T67 l0 a1_0).f3.f3) _ _ l2 t107 t108 _ ?side1 ?side2 ?side3 ?side4 A34.out).mono ?_); (case side1 => exact qC HR104_6.out); (case side2 => exact HC104_6.out); (case side3 => exact qC HR2.out); (case side4 => exact HC2.out); rintro e w43 ⟨rfl, hb⟩; refine ⟨_, rfl, ?_⟩; have n0_ := qn101 (g := gb101) hb; have n1_ := qn102 (g := gb102) hb; have n2_ := qn105 (g := gb105) hb; have n3_ := qs hb; clear BK101; clear BK102; clear BK105; clear HB; have BK101 := n0_; have BK102 := n1_; have BK105 := n2_; have HB := n3_; clear n0_ n1_ n2_ n3_; (try clear hb); have hnb44 := NB101_102.out; have hnc44 := NB102_101.out; obtain ⟨_, _, _, _⟩ := q2 BK101.out; obtain ⟨_, _, _, _⟩ := q2 BK102.out))
       refine bodyPost_ret (results_list (rs := [.cell 6 57, .tmp 7, .tmp 8, .tmp 9]) rfl (by simp) (.cell gb102 57 #[.int .i64 a1_0, .int .i64 a1_1] (0, 0) _ rfl qy102 Tryd.underlying57 rfl (by kernel_rfl) (.tmp (.tmp (.tmp .nil))))) rfl ?_
       exact ⟨_, by first | rfl | (simp [errW_none, errW_some] <;> rfl) | (simp [*, errW_none, errW_some] <;> rfl), by first | exact Kd.R_nil _ _ _ _ _ | exact Kd.N_nil _ _ _ _ _ | exact Kd.V_nil _ _ _ _ _ | exact Kd.Q_nil _ _ _ _ _ | exact Kd.S_nil _ _ _ _ _, qb⟩
      replace c33 := Bool.eq_false_iff.mpr c33
      subst c33
      rw [if_neg qf] at H
      have H' := Aside0.mk H
      clear H
      go_wp2
      go_meet
      case rel => exact ⟨_, (0), (0), (0), qv, H', ⟨by have := HJ16.out; first | omega | exact Nat.le_refl _⟩, qk101, qk102, qk105, qB⟩
     clear HC32
     obtain ⟨kq, x12_31, x103000_31, x103001_31, rfl, HA, HJ31, BK101, BK102, BK105, HB⟩ := hcut
     cases kq with
     | zero => exact absurd HA.out (by simp [malthouseref11_Scan.j1])
     | succ kj31 =>
      have H := HA.out
      clear HA
      simp only [malthouseref11_Scan.j1] at H
      have HC47 := Aside0.mk H
      clear H
      have hnb48 := NB101_102.out
      have hnc48 := NB102_101.out
      have hnb49 := NB101_105.out
      have hnc49 := NB105_101.out
      obtain ⟨_, _, _, _⟩ := q2 BK101.out
      go_upto_if 62 with (first | ((with_reducible refine gate_dst (N := 17) rfl ?_); (try (refine gate_guard (by rfl) ?_; dsimp only)); refine box_event ?hg (N := 17) ?hd (cs := #[.int .i64 0, .int .i64 0]) (t := 57) ?hr ?_; (case hd => rfl); (case hg => rfl); (case hr => first | (go_simp; done) | (go_simp; rfl)); intro gb109 hg w51 hbox hb; have n0_ := qn101 (g := gb101) hb; have n1_ := qn102 (g := gb102) hb; have n2_ := qn105 (g := gb105) hb; have n3_ := qs hb; have n4_ := Aside0.mk (hbox); have n5_ := Aside0.mk ((by rw [hg]; exact (below_size qb) : w.heap.size ≤ gb109)); have n6_ := Aside0.mk ((by rw [hg]; exact (below_size qb) : w.heap.size ≤ gb109)); have n7_ := Aside0.mk ((by rw [hg]; exact Nat.ne_of_lt (blk_lt (g := gb101) (o := .cells #[.int .i64 a1_0, .int .i64 a1_1] 57 (0, 0)) (by (with_reducible repeat (first | refine blk_drewN ?_ _ | refine blk_drew ?_ | refine blk_alloc ?_ _)); exact BK101.out)) : gb101 ≠ gb109)); have n8_ := Aside0.mk ((by rw [hg]; exact Nat.ne_of_gt (blk_lt (g := gb101) (o := .cells #[.int .i64 a1_0, .int .i64 a1_1] 57 (0, 0)) (by (with_reducible repeat (first | refine blk_drewN ?_ _ | refine blk_drew ?_ | refine blk_alloc ?_ _)); exact BK101.out)) : gb109 ≠ gb101)); have n9_ := Aside0.mk ((by rw [hg]; exact Nat.ne_of_lt (blk_lt (g := gb102) (o := .cells #[.int .i64 x103000_31, .int .i64 x103001_31] 57 (0, 0)) (by (with_reducible repeat (first | refine blk_drewN ?_ _ | refine blk_drew ?_ | refine blk_alloc ?_ _)); exact BK102.out)) : gb102 ≠ gb109)); have n10_ := Aside0.mk ((by rw [hg]; exact Nat.ne_of_gt (blk_lt (g := gb102) (o := .cells #[.int .i64 x103000_31, .int .i64 x103001_31] 57 (0, 0)) (by (with_reducible repeat (first | refine blk_drewN ?_ _ | refine blk_drew ?_ | refine blk_alloc ?_ _)); exact BK102.out)) : gb109 ≠ gb102)); have n11_ := Aside0.mk ((by rw [hg]; exact Nat.ne_of_lt (blk_lt (g := gb105) (o := .cells #[.int .i64 ((rd_T67 l0 a1_0).f0), .string ((rd_T67 l0 a1_0).f1), .string ((rd_T67 l0 a1_0).f2), .int .i64 ((rd_T67 l0 a1_0).f3.f0), .int .i64 ((rd_T67 l0 a1_0).f3.f1), .string ((rd_T67 l0 a1_0).f3.f2), .slice A104_6 ((rd_T67 l0 a1_0).f3.f3).length c104_6, .int .i64 ((rd_T67 l0 a1_0).f4)] 67 (0, 0)) (by (with_reducible repeat (first | refine blk_drewN ?_ _ | refine blk_drew ?_ | refine blk_alloc ?_ _)); exact BK105.out)) : gb105 ≠ gb109)); have n12_ := Aside0.mk ((by rw [hg]; exact Nat.ne_of_gt (blk_lt (g := gb105) (o := .cells #[.int .i64 ((rd_T67 l0 a1_0).f0), .string ((rd_T67 l0 a1_0).f1), .string ((rd_T67 l0 a1_0).f2), .int .i64 ((rd_T67 l0 a1_0).f3.f0), .int .i64 ((rd_T67 l0 a1_0).f3.f1), .string ((rd_T67 l0 a1_0).f3.f2), .slice A104_6 ((rd_T67 l0 a1_0).f3.f3).length c104_6, .int .i64 ((rd_T67 l0 a1_0).f4)] 67 (0, 0)) (by (with_reducible repeat (first | refine blk_drewN ?_ _ | refine blk_drew ?_ | refine blk_alloc ?_ _)); exact BK105.out)) : gb109 ≠ gb105)); clear BK101; clear BK102; clear BK105; clear HB; have BK101 := n0_; have BK102 := n1_; have BK105 := n2_; have HB := n3_; have BK109 := n4_; have GW109 := n5_; have GE109 := n6_; have NB101_109 := n7_; have NB109_101 := n8_; have NB102_109 := n9_; have NB109_102 := n10_; have NB105_109 := n11_; have NB109_105 := n12_; clear n0_ n1_ n2_ n3_ n4_ n5_ n6_ n7_ n8_ n9_ n10_ n11_ n12_; clear hb hbox hg; have hnb52 := NB109_101.out; have hnc52 := NB101_109.out; have hnb53 := NB109_102.out; have hnc53 := NB102_109.out; have hnb54 := NB109_105.out; have hnc54 := NB105_109.out; obtain ⟨_, _, _, _⟩ := q2 BK109.out; have hnb56 := NB105_102.out; have hnc56 := NB102_105.out; obtain ⟨_, _, _, _, _, _, _, _, _, _, _, _, _, _, _, _⟩ := q8 BK105.out))
      (try simp only [Act.put, List.setIfInBounds_toArray, List.set_cons_zero, List.set_cons_succ])
      go_cut [62] (fun v62 wc => ∃ (kq : Nat) (x62_46 : Bool), v62 = .bool x62_46 ∧ Aside0 (malthouseref11_Scan.j2 kq l0 x12_31 ([] : List (S72)) ((rd_T67 l0 a1_0).f0) x62_46 a1_0 a1_1 ((rd_T67 l0 a1_0).f0) ((rd_T67 l0 a1_0).f1) ((rd_T67 l0 a1_0).f2) ((rd_T67 l0 a1_0).f3.f0) ((rd_T67 l0 a1_0).f3.f1) ((rd_T67 l0 a1_0).f3.f2) ((rd_T67 l0 a1_0).f3.f3) ((rd_T67 l0 a1_0).f4) (wrap64 (a1_0 + 1)) 0 = some (r1, r2, r3, r4, r5)) ∧ Aside0 (kq ≤ kj31) ∧ Aside0 (Kd.R k72 72 wc w.heap.size (fun _ => True) (.slice none 0 0) ([] : List (S72))) ∧ Aside0 (wc.heap[gb101]? = some (.cells #[.int .i64 a1_0, .int .i64 a1_1] 57 (0, 0))) ∧ Aside0 (wc.heap[gb102]? = some (.cells #[.int .i64 x103000_31, .int .i64 x103001_31] 57 (0, 0))) ∧ Aside0 (wc.heap[gb105]? = some (.cells #[.int .i64 ((rd_T67 l0 a1_0).f0), .string ((rd_T67 l0 a1_0).f1), .string ((rd_T67 l0 a1_0).f2), .int .i64 ((rd_T67 l0 a1_0).f3.f0), .int .i64 ((rd_T67 l0 a1_0).f3.f1), .string ((rd_T67 l0 a1_0).f3.f2), (.slice A104_6 ((rd_T67 l0 a1_0).f3.f3).length c104_6), .int .i64 ((rd_T67 l0 a1_0).f4)] 67 (0, 0))) ∧ Aside0 (wc.heap[gb109]? = some (.cells #[.int .i64 (wrap64 (a1_0 + 1)), .int .i64 0] 57 (0, 0))) ∧ Aside0 (Below w.heap.size w wc))
      case first =>
       have H := HC47.out
       clear HC47
       by_cases c58 : ((rd_T67 l0 a1_0).f0) = 0
       ·rw [if_pos c58] at H
        obtain ⟨c58b0, c58b1⟩ := qe c58
        clear c58
        (first | rw [c58b0] | (simp only [i64_w, i32_w]; rw [c58b0]) | skip)
        have H' := Aside0.mk H
        clear H
        go_wp2
        go_meet
        case rel => exact ⟨_, ((((rd_T67 l0 a1_0).f0) == 0)), qv, H', ⟨by have := HJ16.out; have := HJ31.out; first | omega | exact Nat.le_refl _⟩, ⟨by first | exact Kd.R_nil _ _ _ _ _ | exact Kd.N_nil _ _ _ _ _ | exact Kd.V_nil _ _ _ _ _ | exact Kd.Q_nil _ _ _ _ _ | exact Kd.S_nil _ _ _ _ _⟩, ⟨by (with_reducible repeat (first | refine blk_drewN ?_ _ | refine blk_drew ?_ | refine blk_alloc ?_ _)); refine blk_far ?_ NB101_109.out _; (with_reducible repeat (first | refine blk_drewN ?_ _ | refine blk_drew ?_ | refine blk_alloc ?_ _)); refine blk_far ?_ NB101_109.out _; (with_reducible repeat (first | refine blk_drewN ?_ _ | refine blk_drew ?_ | refine blk_alloc ?_ _)); exact BK101.out⟩, ⟨by (with_reducible repeat (first | refine blk_drewN ?_ _ | refine blk_drew ?_ | refine blk_alloc ?_ _)); refine blk_far ?_ NB102_109.out _; (with_reducible repeat (first | refine blk_drewN ?_ _ | refine blk_drew ?_ | refine blk_alloc ?_ _)); refine blk_far ?_ NB102_109.out _; (with_reducible repeat (first | refine blk_drewN ?_ _ | refine blk_drew ?_ | refine blk_alloc ?_ _)); exact BK102.out⟩, ⟨by (with_reducible repeat (first | refine blk_drewN ?_ _ | refine blk_drew ?_ | refine blk_alloc ?_ _)); refine blk_far ?_ NB105_109.out _; (with_reducible repeat (first | refine blk_drewN ?_ _ | refine blk_drew ?_ | refine blk_alloc ?_ _)); refine blk_far ?_ NB105_109.out _; (with_reducible repeat (first | refine blk_drewN ?_ _ | refine blk_drew ?_ | refine blk_alloc ?_ _)); exact BK105.out⟩, qY109, qB⟩
       rw [if_neg c58] at H
       obtain ⟨c58b0, c58b1⟩ := qd c58
       (first | rw [c58b0] | (simp only [i64_w, i32_w]; rw [c58b0]) | skip)
       by_cases c59 : ((rd_T67 l0 a1_0).f0) = 3
       ·rw [if_pos c59] at H
        obtain ⟨c59b0, c59b1⟩ := qe c59
        clear c59
        have H' := Aside0.mk H
        clear H
        go_wp2
        go_meet
        case rel => exact ⟨_, ((((rd_T67 l0 a1_0).f0) == 3)), qv, H', ⟨by have := HJ16.out; have := HJ31.out; first | omega | exact Nat.le_refl _⟩, ⟨by first | exact Kd.R_nil _ _ _ _ _ | exact Kd.N_nil _ _ _ _ _ | exact Kd.V_nil _ _ _ _ _ | exact Kd.Q_nil _ _ _ _ _ | exact Kd.S_nil _ _ _ _ _⟩, ⟨by (with_reducible repeat (first | refine blk_drewN ?_ _ | refine blk_drew ?_ | refine blk_alloc ?_ _)); refine blk_far ?_ NB101_109.out _; (with_reducible repeat (first | refine blk_drewN ?_ _ | refine blk_drew ?_ | refine blk_alloc ?_ _)); refine blk_far ?_ NB101_109.out _; (with_reducible repeat (first | refine blk_drewN ?_ _ | refine blk_drew ?_ | refine blk_alloc ?_ _)); exact BK101.out⟩, ⟨by (with_reducible repeat (first | refine blk_drewN ?_ _ | refine blk_drew ?_ | refine blk_alloc ?_ _)); refine blk_far ?_ NB102_109.out _; (with_reducible repeat (first | refine blk_drewN ?_ _ | refine blk_drew ?_ | refine blk_alloc ?_ _)); refine blk_far ?_ NB102_109.out _; (with_reducible repeat (first | refine blk_drewN ?_ _ | refine blk_drew ?_ | refine blk_alloc ?_ _)); exact BK102.out⟩, ⟨by (with_reducible repeat (first | refine blk_drewN ?_ _ | refine blk_drew ?_ | refine blk_alloc ?_ _)); refine blk_far ?_ NB105_109.out _; (with_reducible repeat (first | refine blk_drewN ?_ _ | refine blk_drew ?_ | refine blk_alloc ?_ _)); refine blk_far ?_ NB105_109.out _; (with_reducible repeat (first | refine blk_drewN ?_ _ | refine blk_drew ?_ | refine blk_alloc ?_ _)); exact BK105.out⟩, qY109, qB⟩
       rw [if_neg c59] at H
       obtain ⟨c59b0, c59b1⟩ := qd c59
       by_cases c60 : ((rd_T67 l0 a1_0).f0) = 4
       ·rw [if_pos c60] at H
        obtain ⟨c60b0, c60b1⟩ := qe c60
        clear c60
        have H' := Aside0.mk H
        clear H
        go_wp2
        go_meet
        case rel => exact ⟨_, ((((rd_T67 l0 a1_0).f0) == 4)), qv, H', ⟨by have := HJ16.out; have := HJ31.out; first | omega | exact Nat.le_refl _⟩, ⟨by first | exact Kd.R_nil _ _ _ _ _ | exact Kd.N_nil _ _ _ _ _ | exact Kd.V_nil _ _ _ _ _ | exact Kd.Q_nil _ _ _ _ _ | exact Kd.S_nil _ _ _ _ _⟩, ⟨by (with_reducible repeat (first | refine blk_drewN ?_ _ | refine blk_drew ?_ | refine blk_alloc ?_ _)); refine blk_far ?_ NB101_109.out _; (with_reducible repeat (first | refine blk_drewN ?_ _ | refine blk_drew ?_ | refine blk_alloc ?_ _)); refine blk_far ?_ NB101_109.out _; (with_reducible repeat (first | refine blk_drewN ?_ _ | refine blk_drew ?_ | refine blk_alloc ?_ _)); exact BK101.out⟩, ⟨by (with_reducible repeat (first | refine blk_drewN ?_ _ | refine blk_drew ?_ | refine blk_alloc ?_ _)); refine blk_far ?_ NB102_109.out _; (with_reducible repeat (first | refine blk_drewN ?_ _ | refine blk_drew ?_ | refine blk_alloc ?_ _)); refine blk_far ?_ NB102_109.out _; (with_reducible repeat (first | refine blk_drewN ?_ _ | refine blk_drew ?_ | refine blk_alloc ?_ _)); exact BK102.out⟩, ⟨by (with_reducible repeat (first | refine blk_drewN ?_ _ | refine blk_drew ?_ | refine blk_alloc ?_ _)); refine blk_far ?_ NB105_109.out _; (with_reducible repeat (first | refine blk_drewN ?_ _ | refine blk_drew ?_ | refine blk_alloc ?_ _)); refine blk_far ?_ NB105_109.out _; (with_reducible repeat (first | refine blk_drewN ?_ _ | refine blk_drew ?_ | refine blk_alloc ?_ _)); exact BK105.out⟩, qY109, qB⟩
       rw [if_neg c60] at H
       obtain ⟨c60b0, c60b1⟩ := qd c60
       have H' := Aside0.mk H
       clear H
       go_wp2
       go_meet
       case rel => exact ⟨_, ((((rd_T67 l0 a1_0).f0) == 5)), qv, H', ⟨by have := HJ16.out; have := HJ31.out; first | omega | exact Nat.le_refl _⟩, ⟨by first | exact Kd.R_nil _ _ _ _ _ | exact Kd.N_nil _ _ _ _ _ | exact Kd.V_nil _ _ _ _ _ | exact Kd.Q_nil _ _ _ _ _ | exact Kd.S_nil _ _ _ _ _⟩, ⟨by (with_reducible repeat (first | refine blk_drewN ?_ _ | refine blk_drew ?_ | refine blk_alloc ?_ _)); refine blk_far ?_ NB101_109.out _; (with_reducible repeat (first | refine blk_drewN ?_ _ | refine blk_drew ?_ | refine blk_alloc ?_ _)); refine blk_far ?_ NB101_109.out _; (with_reducible repeat (first | refine blk_drewN ?_ _ | refine blk_drew ?_ | refine blk_alloc ?_ _)); exact BK101.out⟩, ⟨by (with_reducible repeat (first | refine blk_drewN ?_ _ | refine blk_drew ?_ | refine blk_alloc ?_ _)); refine blk_far ?_ NB102_109.out _; (with_reducible repeat (first | refine blk_drewN ?_ _ | refine blk_drew ?_ | refine blk_alloc ?_ _)); refine blk_far ?_ NB102_109.out _; (with_reducible repeat (first | refine blk_drewN ?_ _ | refine blk_drew ?_ | refine blk_alloc ?_ _)); exact BK102.out⟩, ⟨by (with_reducible repeat (first | refine blk_drewN ?_ _ | refine blk_drew ?_ | refine blk_alloc ?_ _)); refine blk_far ?_ NB105_109.out _; (with_reducible repeat (first | refine blk_drewN ?_ _ | refine blk_drew ?_ | refine blk_alloc ?_ _)); refine blk_far ?_ NB105_109.out _; (with_reducible repeat (first | refine blk_drewN ?_ _ | refine blk_drew ?_ | refine blk_alloc ?_ _)); exact BK105.out⟩, qY109, qB⟩
      clear HC47
      obtain ⟨kq, x62_46, rfl, HA, HJ46, HO_16, BK101, BK102, BK105, BK109, HB⟩ := hcut
      cases kq with
      | zero => exact absurd HA.out (by simp [malthouseref11_Scan.j2])
      | succ kj46 =>
       have H := HA.out
       clear HA
       simp only [malthouseref11_Scan.j2] at H
       by_cases c61 : x62_46 = true
       ·subst c61
        rw [if_pos rfl] at H
        obtain ⟨y110, hy110⟩ : ∃ y_ : List (S72), y_ = (([(⟨((rd_T67 l0 a1_0).f0), ((rd_T67 l0 a1_0).f1), ((rd_T67 l0 a1_0).f2), x12_31⟩ : S72)] : List (S72))) := ⟨_, rfl⟩
        replace H : (some ((wrap64 (a1_0 + 1)), 0, y110, ((wrap64 (a1_0 + 1)) == (l0.length : Int)), 0)) = some (r1, r2, r3, r4, r5) := by first | (rw [hy110]; with_reducible exact H) | (have H2_ := (Option.bind_some _ _).symm.trans H; rw [hy110]; with_reducible exact H2_) | (have H2_ := (Option.bind_some _ _).symm.trans H; with_reducible exact H2_) | with_reducible exact H | (rw [hy110]; exact H) | exact H
        have Ny110 := Aside0.mk hy110
        clear hy110
        simp only [Option.some.injEq, Prod.mk.injEq] at H
        obtain ⟨rfl, rfl, rfl, rfl, rfl⟩ := H
        have hnb62 := NB105_101.out
        have hnc62 := NB101_105.out
        have hnb63 := NB105_102.out
        have hnc63 := NB102_105.out
        have hnb64 := NB105_109.out
        have hnc64 := NB109_105.out
        obtain ⟨_, _, _, _, _, _, _, _, _, _, _, _, _, _, _, _⟩ := q8 BK105.out
        try go_wp2_with (first | ((with_reducible refine gate_dst (N := 75) rfl ?_); (try (refine gate_guard (by rfl) ?_; dsimp only)); refine Kd.R_lit k72 _ 72 ?hg (N := 75) ?hd (xs := ([(⟨((rd_T67 l0 a1_0).f0), ((rd_T67 l0 a1_0).f1), ((rd_T67 l0 a1_0).f2), x12_31⟩ : S72)] : List (S72))) (inner := [.int .i64 ((rd_T67 l0 a1_0).f0), .string ((rd_T67 l0 a1_0).f1), .string ((rd_T67 l0 a1_0).f2), .int .i64 x12_31]) (ok := fun _ => True) (okp := fun _ => True) ?hr ?hp (fun _ hk => hk) trivial (Below.refl _ _) (Nat.le_refl _) (by simp) ?_; (case hd => rfl); (case hg => rfl); (case hr => first | (go_simp; done) | (go_simp; rfl)); (case hp => exact (Reps.c4 (show Kd.M k72 _ _ _ (⟨((rd_T67 l0 a1_0).f0), ((rd_T67 l0 a1_0).f1), ((rd_T67 l0 a1_0).f2), x12_31⟩ : S72) [.int .i64 ((rd_T67 l0 a1_0).f0), .string ((rd_T67 l0 a1_0).f1), .string ((rd_T67 l0 a1_0).f2), .int .i64 x12_31] from (k72_mkM _ _ _ (⟨((rd_T67 l0 a1_0).f0), ((rd_T67 l0 a1_0).f1), ((rd_T67 l0 a1_0).f2), x12_31⟩ : S72) )) (Reps.none _ _))); intro v111 w66 ho67 hb hg_ hnew_; clear hg_ hnew_; (first | rw [← Ny110.out] at ho67 | (simp only [Int.reduceToNat] at ho67; rw [← Ny110.out] at ho67)); have n0_ := Aside0.mk (Kd.R_elder' (by (with_reducible repeat (first | apply Kd.R_alloc | apply Kd.R_drewN | apply Kd.R_drew)); exact HO_16.out) (Kd.R_base ho67) hb); have n1_ := Aside0.mk (Kd.R_lower (Kd.R_new' ho67 (Kd.R_lt (by (with_reducible repeat (first | apply Kd.R_alloc | apply Kd.R_drewN | apply Kd.R_drew)); exact HO_16.out))) (below_size qb)); have n2_ := qn101 (g := gb101) hb; have n3_ := qn102 (g := gb102) hb; have n4_ := qn105 (g := gb105) hb; have n5_ := qn109 (g := gb109) hb; have n6_ := qs hb; clear HO_16; clear BK101; clear BK102; clear BK105; clear BK109; clear HB; have HO_16 := n0_; have HO112 := n1_; have BK101 := n2_; have BK102 := n3_; have BK105 := n4_; have BK109 := n5_; have HB := n6_; clear n0_ n1_ n2_ n3_ n4_ n5_ n6_; clear hb ho67))
        replace HO_16 := Aside0.mk (Kd.R_drew HO_16.out)
        replace HO112 := Aside0.mk (Kd.R_drew HO112.out)
        replace BK101 := Aside0.mk (blk_drew BK101.out)
        replace BK102 := Aside0.mk (blk_drew BK102.out)
        replace BK105 := Aside0.mk (blk_drew BK105.out)
        replace BK109 := Aside0.mk (blk_drew BK109.out)
        replace HB := Aside0.mk (below_drew1 HB.out)
        refine start_ (n := 11) (S := fun w' => w'.cell? ⟨gb109, 0, none⟩ = some (.int .i64 (wrap64 (a1_0 + 1))) ∧ w'.cell? ⟨gb109, 1, none⟩ = some (.int .i64 0)) (ds := []) #[Z,Z,Z,Z,Z,Z,Z,Z,Z,Z,Z] (by kernel_rfl) rfl rfl ⟨(blk_cell BK109.out 0).trans rfl, (blk_cell BK109.out 1).trans rfl⟩ (fun hHeld => ?_); refine with_tabW malthouseref11_Scan.tab36 malthouseref11_Scan.bits36 (fun HT_ HW_ => ?_)
        generalize w66.drew = w68 at HO_16 HO112 BK101 BK102 BK105 BK109 HB hHeld ⊢
        refine qpu 1 (some 128) ?_
        refine qpu 2 (some 129) ?_
        refine qpu 4 (some 131) ?_
        refine qpu 5 (some 132) ?_
        refine qtw2 0 (some 127) hHeld ?_
        refine qtw2 3 (some 130) hHeld ?_
        refine qpu 6 (some 133) ?_
        refine one_ (i := 7) (N := none) #[Y,Y,Y,Y,Y,Y,Y,Y,Z,Z,Z] rfl rfl (one_of HT_.out (by kernel_rfl)) (by decide) (fun K hK => ?_)
        have hs69 : w68.cell? ⟨gb102, 0, none⟩ = some (.int .i64 x103000_31) := (blk_cell BK102.out 0).trans rfl
        have hfs69 := blk_frozen BK102.out 0
        have hns69_0 := NB101_102.out
        have hns69_2 := NB105_102.out
        have hns69_3 := NB109_102.out
        have hms69_0 := NB102_101.out
        have hms69_2 := NB102_105.out
        have hms69_3 := NB102_109.out
        have hs70 : w68.cell? ⟨gb102, 1, none⟩ = some (.int .i64 x103001_31) := (blk_cell BK102.out 1).trans rfl
        have hfs70 := blk_frozen BK102.out 1
        have hns70_0 := NB101_102.out
        have hns70_2 := NB105_102.out
        have hns70_3 := NB109_102.out
        have hms70_0 := NB102_101.out
        have hms70_2 := NB102_105.out
        have hms70_3 := NB102_109.out
        refine skip_ (w1 := ?_) (by rfl) rfl ?_ ?_
        rotate_left
        ·go_simp
         rfl
        refine hK.out _ _ ⟨((cell_far (p := ⟨gb102, _, none⟩) NB109_102.out _).trans (((cell_far (p := ⟨gb102, _, none⟩) NB109_102.out _).trans (hHeld.1)))), ((cell_far (p := ⟨gb102, _, none⟩) NB109_102.out _).trans (((cell_far (p := ⟨gb102, _, none⟩) NB109_102.out _).trans (hHeld.2))))⟩ (fun hHeld => ?_)
        clear hK K
        refine qpu 8 (some 7) ?_
        refine qpu 9 (some 8) ?_
        refine qpu 10 (some 9) ?_
        refine done_ (done_of HT_.out (by kernel_rfl)) ?_
        try go_wp2
        refine bodyPost_ret (results_list (rs := [.cell 6 57, .tmp 7, .tmp 8, .tmp 9]) rfl (by simp) (.cell gb102 57 #[.int .i64 (wrap64 (a1_0 + 1)), .int .i64 0] (0, 0) _ rfl qy102 Tryd.underlying57 rfl (by kernel_rfl) (.tmp (.tmp (.tmp .nil))))) rfl ?_
        exact ⟨_, by first | rfl | (simp [errW_none, errW_some] <;> rfl) | (simp [*, errW_none, errW_some] <;> rfl), by (with_reducible repeat (first | apply Kd.R_alloc | apply Kd.R_drewN | apply Kd.R_drew)); exact Kd.R_mono (Kd.R_far (p := ⟨gb102, 1, none⟩) (Kd.R_far (p := ⟨gb102, 0, none⟩) (Kd.R_types HO112.out BK102.out (by decide)) (fun _ hk => hk.2) (.int .i64 (wrap64 (a1_0 + 1)))) (fun _ hk => hk.2) (.int .i64 0)) (fun _ hk => trivial), qb⟩
       replace c61 := Bool.eq_false_iff.mpr c61
       subst c61
       rw [if_neg qf] at H
       by_cases c71 : ((rd_T67 l0 a1_0).f0) = 7
       ·rw [if_pos c71] at H
        obtain ⟨c71b0, c71b1⟩ := qe c71
        clear c71
        obtain ⟨y113, hy113⟩ : ∃ y_ : List (S72), y_ = (([(⟨((rd_T67 l0 a1_0).f0), ((rd_T67 l0 a1_0).f1), (⟨#[]⟩ : ByteArray), 0⟩ : S72)] : List (S72))) := ⟨_, rfl⟩
        replace H : (some ((wrap64 (a1_0 + 1)), 0, y113, ((wrap64 (a1_0 + 1)) == (l0.length : Int)), 0)) = some (r1, r2, r3, r4, r5) := by first | (rw [hy113]; with_reducible exact H) | (have H2_ := (Option.bind_some _ _).symm.trans H; rw [hy113]; with_reducible exact H2_) | (have H2_ := (Option.bind_some _ _).symm.trans H; with_reducible exact H2_) | with_reducible exact H | (rw [hy113]; exact H) | exact H
        have Ny113 := Aside0.mk hy113
        clear hy113
        simp only [Option.some.injEq, Prod.mk.injEq] at H
        obtain ⟨rfl, rfl, rfl, rfl, rfl⟩ := H
        have hnb72 := NB105_101.out
        have hnc72 := NB101_105.out
        have hnb73 := NB105_102.out
        have hnc73 := NB102_105.out
        have hnb74 := NB105_109.out
        have hnc74 := NB109_105.out
        obtain ⟨_, _, _, _, _, _, _, _, _, _, _, _, _, _, _, _⟩ := q8 BK105.out
        try go_wp2_with (first | ((with_reducible refine gate_dst (N := 83) rfl ?_); (try (refine gate_guard (by rfl) ?_; dsimp only)); refine Kd.R_lit k72 _ 72 ?hg (N := 83) ?hd (xs := ([(⟨((rd_T67 l0 a1_0).f0), ((rd_T67 l0 a1_0).f1), (⟨#[]⟩ : ByteArray), 0⟩ : S72)] : List (S72))) (inner := [.int .i64 ((rd_T67 l0 a1_0).f0), .string ((rd_T67 l0 a1_0).f1), .string (⟨#[]⟩ : ByteArray), .int .i64 0]) (ok := fun _ => True) (okp := fun _ => True) ?hr ?hp (fun _ hk => hk) trivial (Below.refl _ _) (Nat.le_refl _) (by simp) ?_; (case hd => rfl); (case hg => rfl); (case hr => first | (go_simp; done) | (go_simp; rfl)); (case hp => exact (Reps.c4 (show Kd.M k72 _ _ _ (⟨((rd_T67 l0 a1_0).f0), ((rd_T67 l0 a1_0).f1), (⟨#[]⟩ : ByteArray), 0⟩ : S72) [.int .i64 ((rd_T67 l0 a1_0).f0), .string ((rd_T67 l0 a1_0).f1), .string (⟨#[]⟩ : ByteArray), .int .i64 0] from (k72_mkM _ _ _ (⟨((rd_T67 l0 a1_0).f0), ((rd_T67 l0 a1_0).f1), (⟨#[]⟩ : ByteArray), 0⟩ : S72) )) (Reps.none _ _))); intro v114 w76 ho77 hb hg_ hnew_; clear hg_ hnew_; (first | rw [← Ny113.out] at ho77 | (simp only [Int.reduceToNat] at ho77; rw [← Ny113.out] at ho77)); have n0_ := Aside0.mk (Kd.R_elder' (by (with_reducible repeat (first | apply Kd.R_alloc | apply Kd.R_drewN | apply Kd.R_drew)); exact HO_16.out) (Kd.R_base ho77) hb); have n1_ := Aside0.mk (Kd.R_lower (Kd.R_new' ho77 (Kd.R_lt (by (with_reducible repeat (first | apply Kd.R_alloc | apply Kd.R_drewN | apply Kd.R_drew)); exact HO_16.out))) (below_size qb)); have n2_ := qn101 (g := gb101) hb; have n3_ := qn102 (g := gb102) hb; have n4_ := qn105 (g := gb105) hb; have n5_ := qn109 (g := gb109) hb; have n6_ := qs hb; clear HO_16; clear BK101; clear BK102; clear BK105; clear BK109; clear HB; have HO_16 := n0_; have HO115 := n1_; have BK101 := n2_; have BK102 := n3_; have BK105 := n4_; have BK109 := n5_; have HB := n6_; clear n0_ n1_ n2_ n3_ n4_ n5_ n6_; clear hb ho77))
        replace HO_16 := Aside0.mk (Kd.R_drew HO_16.out)
        replace HO115 := Aside0.mk (Kd.R_drew HO115.out)
        replace BK101 := Aside0.mk (blk_drew BK101.out)
        replace BK102 := Aside0.mk (blk_drew BK102.out)
        replace BK105 := Aside0.mk (blk_drew BK105.out)
        replace BK109 := Aside0.mk (blk_drew BK109.out)
        replace HB := Aside0.mk (below_drew1 HB.out)
        refine start_ (n := 11) (S := fun w' => w'.cell? ⟨gb109, 0, none⟩ = some (.int .i64 (wrap64 (a1_0 + 1))) ∧ w'.cell? ⟨gb109, 1, none⟩ = some (.int .i64 0)) (ds := []) #[Z,Z,Z,Z,Z,Z,Z,Z,Z,Z,Z] (by kernel_rfl) rfl rfl ⟨(blk_cell BK109.out 0).trans rfl, (blk_cell BK109.out 1).trans rfl⟩ (fun hHeld => ?_); refine with_tabW malthouseref11_Scan.tab36 malthouseref11_Scan.bits36 (fun HT_ HW_ => ?_)
        generalize w76.drew = w78 at HO_16 HO115 BK101 BK102 BK105 BK109 HB hHeld ⊢
        refine qpu 1 (some 128) ?_
        refine qpu 2 (some 129) ?_
        refine qpu 4 (some 131) ?_
        refine qpu 5 (some 132) ?_
        refine qtw2 0 (some 127) hHeld ?_
        refine qtw2 3 (some 130) hHeld ?_
        refine qpu 6 (some 133) ?_
        refine one_ (i := 7) (N := none) #[Y,Y,Y,Y,Y,Y,Y,Y,Z,Z,Z] rfl rfl (one_of HT_.out (by kernel_rfl)) (by decide) (fun K hK => ?_)
        have hs79 : w78.cell? ⟨gb102, 0, none⟩ = some (.int .i64 x103000_31) := (blk_cell BK102.out 0).trans rfl
        have hfs79 := blk_frozen BK102.out 0
        have hns79_0 := NB101_102.out
        have hns79_2 := NB105_102.out
        have hns79_3 := NB109_102.out
        have hms79_0 := NB102_101.out
        have hms79_2 := NB102_105.out
        have hms79_3 := NB102_109.out
        have hs80 : w78.cell? ⟨gb102, 1, none⟩ = some (.int .i64 x103001_31) := (blk_cell BK102.out 1).trans rfl
        have hfs80 := blk_frozen BK102.out 1
        have hns80_0 := NB101_102.out
        have hns80_2 := NB105_102.out
        have hns80_3 := NB109_102.out
        have hms80_0 := NB102_101.out
        have hms80_2 := NB102_105.out
        have hms80_3 := NB102_109.out
        refine skip_ (w1 := ?_) (by rfl) rfl ?_ ?_
        rotate_left
        ·go_simp
         rfl
        refine hK.out _ _ ⟨((cell_far (p := ⟨gb102, _, none⟩) NB109_102.out _).trans (((cell_far (p := ⟨gb102, _, none⟩) NB109_102.out _).trans (hHeld.1)))), ((cell_far (p := ⟨gb102, _, none⟩) NB109_102.out _).trans (((cell_far (p := ⟨gb102, _, none⟩) NB109_102.out _).trans (hHeld.2))))⟩ (fun hHeld => ?_)
        clear hK K
        refine qpu 8 (some 7) ?_
        refine qpu 9 (some 8) ?_
        refine qpu 10 (some 9) ?_
        refine done_ (done_of HT_.out (by kernel_rfl)) ?_
        try go_wp2
        refine bodyPost_ret (results_list (rs := [.cell 6 57, .tmp 7, .tmp 8, .tmp 9]) rfl (by simp) (.cell gb102 57 #[.int .i64 (wrap64 (a1_0 + 1)), .int .i64 0] (0, 0) _ rfl qy102 Tryd.underlying57 rfl (by kernel_rfl) (.tmp (.tmp (.tmp .nil))))) rfl ?_
        exact ⟨_, by first | rfl | (simp [errW_none, errW_some] <;> rfl) | (simp [*, errW_none, errW_some] <;> rfl), by (with_reducible repeat (first | apply Kd.R_alloc | apply Kd.R_drewN | apply Kd.R_drew)); exact Kd.R_mono (Kd.R_far (p := ⟨gb102, 1, none⟩) (Kd.R_far (p := ⟨gb102, 0, none⟩) (Kd.R_types HO115.out BK102.out (by decide)) (fun _ hk => hk.2) (.int .i64 (wrap64 (a1_0 + 1)))) (fun _ hk => hk.2) (.int .i64 0)) (fun _ hk => trivial), qb⟩
       rw [if_neg c71] at H
       obtain ⟨c71b0, c71b1⟩ := qd c71
       by_cases c81 : ((rd_T67 l0 a1_0).f0) = 1
       ·rw [if_pos c81] at H
        obtain ⟨c81b0, c81b1⟩ := qe c81
        clear c81
        by_cases c82 : x12_31 = 0
        ·rw [if_pos c82] at H
         obtain ⟨c82b0, c82b1⟩ := qe c82
         clear c82
         simp only [Option.some.injEq, Prod.mk.injEq] at H
         obtain ⟨rfl, rfl, rfl, rfl, rfl⟩ := H
         have hnb83 := NB101_102.out
         have hnc83 := NB102_101.out
         have hnb84 := NB101_105.out
         have hnc84 := NB105_101.out
         have hnb85 := NB101_109.out
         have hnc85 := NB109_101.out
         obtain ⟨_, _, _, _⟩ := q2 BK101.out
         have hnb87 := NB109_102.out
         have hnc87 := NB102_109.out
         have hnb88 := NB109_105.out
         have hnc88 := NB105_109.out
         obtain ⟨_, _, _, _⟩ := q2 BK109.out
         try go_wp2
         have n0_ : Aside0 (Kd.R k72 72 ((wc.setCell ⟨gb109, 0, none⟩ (.int .i64 a1_0)).setCell ⟨gb109, 1, none⟩ (.int .i64 a1_1)) w.heap.size (fun _ => True) (.slice none 0 0) ([] : List (S72))) := ⟨by (with_reducible repeat (first | apply Kd.R_alloc | apply Kd.R_drewN | apply Kd.R_drew)); exact Kd.R_mono (Kd.R_far (p := ⟨gb109, 1, none⟩) (Kd.R_far (p := ⟨gb109, 0, none⟩) (Kd.R_types HO_16.out BK109.out (by decide)) (fun _ hk => hk.2) (.int .i64 a1_0)) (fun _ hk => hk.2) (.int .i64 a1_1)) (fun _ hk => trivial)⟩
         have n1_ : Aside0 (((wc.setCell ⟨gb109, 0, none⟩ (.int .i64 a1_0)).setCell ⟨gb109, 1, none⟩ (.int .i64 a1_1)).heap[gb101]? = some (.cells #[.int .i64 a1_0, .int .i64 a1_1] 57 (0, 0))) := ⟨by (with_reducible repeat (first | refine blk_drewN ?_ _ | refine blk_drew ?_ | refine blk_alloc ?_ _)); refine blk_far ?_ NB101_109.out _; (with_reducible repeat (first | refine blk_drewN ?_ _ | refine blk_drew ?_ | refine blk_alloc ?_ _)); refine blk_far ?_ NB101_109.out _; (with_reducible repeat (first | refine blk_drewN ?_ _ | refine blk_drew ?_ | refine blk_alloc ?_ _)); exact BK101.out⟩
         have n2_ : Aside0 (((wc.setCell ⟨gb109, 0, none⟩ (.int .i64 a1_0)).setCell ⟨gb109, 1, none⟩ (.int .i64 a1_1)).heap[gb102]? = some (.cells #[.int .i64 x103000_31, .int .i64 x103001_31] 57 (0, 0))) := ⟨by (with_reducible repeat (first | refine blk_drewN ?_ _ | refine blk_drew ?_ | refine blk_alloc ?_ _)); refine blk_far ?_ NB102_109.out _; (with_reducible repeat (first | refine blk_drewN ?_ _ | refine blk_drew ?_ | refine blk_alloc ?_ _)); refine blk_far ?_ NB102_109.out _; (with_reducible repeat (first | refine blk_drewN ?_ _ | refine blk_drew ?_ | refine blk_alloc ?_ _)); exact BK102.out⟩
         have n3_ : Aside0 (((wc.setCell ⟨gb109, 0, none⟩ (.int .i64 a1_0)).setCell ⟨gb109, 1, none⟩ (.int .i64 a1_1)).heap[gb105]? = some (.cells #[.int .i64 ((rd_T67 l0 a1_0).f0), .string ((rd_T67 l0 a1_0).f1), .string ((rd_T67 l0 a1_0).f2), .int .i64 ((rd_T67 l0 a1_0).f3.f0), .int .i64 ((rd_T67 l0 a1_0).f3.f1), .string ((rd_T67 l0 a1_0).f3.f2), .slice A104_6 ((rd_T67 l0 a1_0).f3.f3).length c104_6, .int .i64 ((rd_T67 l0 a1_0).f4)] 67 (0, 0))) := ⟨by (with_reducible repeat (first | refine blk_drewN ?_ _ | refine blk_drew ?_ | refine blk_alloc ?_ _)); refine blk_far ?_ NB105_109.out _; (with_reducible repeat (first | refine blk_drewN ?_ _ | refine blk_drew ?_ | refine blk_alloc ?_ _)); refine blk_far ?_ NB105_109.out _; (with_reducible repeat (first | refine blk_drewN ?_ _ | refine blk_drew ?_ | refine blk_alloc ?_ _)); exact BK105.out⟩
         have n4_ : Aside0 (((wc.setCell ⟨gb109, 0, none⟩ (.int .i64 a1_0)).setCell ⟨gb109, 1, none⟩ (.int .i64 a1_1)).heap[gb109]? = some (.cells #[.int .i64 a1_0, .int .i64 a1_1] 57 (0, 0))) := qY109
         have n5_ : Aside0 (Below w.heap.size w ((wc.setCell ⟨gb109, 0, none⟩ (.int .i64 a1_0)).setCell ⟨gb109, 1, none⟩ (.int .i64 a1_1))) := qB
         generalize ((wc.setCell ⟨gb109, 0, none⟩ (.int .i64 a1_0)).setCell ⟨gb109, 1, none⟩ (.int .i64 a1_1)) = w90 at n0_ n1_ n2_ n3_ n4_ n5_ ⊢
         have HO_16 := n0_
         have BK101 := n1_
         have BK102 := n2_
         have BK105 := n3_
         have BK109 := n4_
         have HB := n5_
         clear n0_ n1_ n2_ n3_ n4_ n5_
         replace HO_16 := Aside0.mk (Kd.R_drew HO_16.out)
         replace BK101 := Aside0.mk (blk_drew BK101.out)
         replace BK102 := Aside0.mk (blk_drew BK102.out)
         replace BK105 := Aside0.mk (blk_drew BK105.out)
         replace BK109 := Aside0.mk (blk_drew BK109.out)
         replace HB := Aside0.mk (below_drew1 HB.out)
         refine start_ (n := 11) (S := fun w' => w'.cell? ⟨gb109, 0, none⟩ = some (.int .i64 a1_0) ∧ w'.cell? ⟨gb109, 1, none⟩ = some (.int .i64 a1_1)) (ds := []) #[Z,Z,Z,Z,Z,Z,Z,Z,Z,Z,Z] (by kernel_rfl) rfl rfl ⟨(blk_cell BK109.out 0).trans rfl, (blk_cell BK109.out 1).trans rfl⟩ (fun hHeld => ?_); refine with_tabW malthouseref11_Scan.tab36 malthouseref11_Scan.bits36 (fun HT_ HW_ => ?_)
         generalize w90.drew = w91 at HO_16 BK101 BK102 BK105 BK109 HB hHeld ⊢
         refine qpu 1 (some 128) ?_
         refine qpu 2 (some 129) ?_
         refine qpu 4 (some 131) ?_
         refine qpu 5 (some 132) ?_
         refine qtw2 0 (some 127) hHeld ?_
         refine qtw2 3 (some 130) hHeld ?_
         refine qpu 6 (some 133) ?_
         refine one_ (i := 7) (N := none) #[Y,Y,Y,Y,Y,Y,Y,Y,Z,Z,Z] rfl rfl (one_of HT_.out (by kernel_rfl)) (by decide) (fun K hK => ?_)
         have hs92 : w91.cell? ⟨gb102, 0, none⟩ = some (.int .i64 x103000_31) := (blk_cell BK102.out 0).trans rfl
         have hfs92 := blk_frozen BK102.out 0
         have hns92_0 := NB101_102.out
         have hns92_2 := NB105_102.out
         have hns92_3 := NB109_102.out
         have hms92_0 := NB102_101.out
         have hms92_2 := NB102_105.out
         have hms92_3 := NB102_109.out
         have hs93 : w91.cell? ⟨gb102, 1, none⟩ = some (.int .i64 x103001_31) := (blk_cell BK102.out 1).trans rfl
         have hfs93 := blk_frozen BK102.out 1
         have hns93_0 := NB101_102.out
         have hns93_2 := NB105_102.out
         have hns93_3 := NB109_102.out
         have hms93_0 := NB102_101.out
         have hms93_2 := NB102_105.out
         have hms93_3 := NB102_109.out
         refine skip_ (w1 := ?_) (by rfl) rfl ?_ ?_
         rotate_left
         ·go_simp
          rfl
         refine hK.out _ _ ⟨((cell_far (p := ⟨gb102, _, none⟩) NB109_102.out _).trans (((cell_far (p := ⟨gb102, _, none⟩) NB109_102.out _).trans (hHeld.1)))), ((cell_far (p := ⟨gb102, _, none⟩) NB109_102.out _).trans (((cell_far (p := ⟨gb102, _, none⟩) NB109_102.out _).trans (hHeld.2))))⟩ (fun hHeld => ?_)
         clear hK K
         refine qpu 8 (some 7) ?_
         refine qpu 9 (some 8) ?_
         refine qpu 10 (some 9) ?_
         refine done_ (done_of HT_.out (by kernel_rfl)) ?_
         try go_wp2
         refine bodyPost_ret (results_list (rs := [.cell 6 57, .tmp 7, .tmp 8, .tmp 9]) rfl (by simp) (.cell gb102 57 #[.int .i64 a1_0, .int .i64 a1_1] (0, 0) _ rfl qy102 Tryd.underlying57 rfl (by kernel_rfl) (.tmp (.tmp (.tmp .nil))))) rfl ?_
         exact ⟨_, by first | rfl | (simp [errW_none, errW_some] <;> rfl) | (simp [*, errW_none, errW_some] <;> rfl), by (with_reducible repeat (first | apply Kd.R_alloc | apply Kd.R_drewN | apply Kd.R_drew)); exact Kd.R_mono (Kd.R_far (p := ⟨gb102, 1, none⟩) (Kd.R_far (p := ⟨gb102, 0, none⟩) (Kd.R_types HO_16.out BK102.out (by decide)) (fun _ hk => hk.2) (.int .i64 a1_0)) (fun _ hk => hk.2) (.int .i64 a1_1)) (fun _ hk => trivial), qb⟩
        rw [if_neg c82] at H
        obtain ⟨c82b0, c82b1⟩ := qd c82
        simp only [Option.some.injEq, Prod.mk.injEq] at H
        obtain ⟨rfl, rfl, rfl, rfl, rfl⟩ := H
        try go_wp2
        replace HO_16 := Aside0.mk (Kd.R_drew HO_16.out)
        replace BK101 := Aside0.mk (blk_drew BK101.out)
        replace BK102 := Aside0.mk (blk_drew BK102.out)
        replace BK105 := Aside0.mk (blk_drew BK105.out)
        replace BK109 := Aside0.mk (blk_drew BK109.out)
        replace HB := Aside0.mk (below_drew1 HB.out)
        refine start_ (n := 11) (S := fun w' => w'.cell? ⟨gb109, 0, none⟩ = some (.int .i64 (wrap64 (a1_0 + 1))) ∧ w'.cell? ⟨gb109, 1, none⟩ = some (.int .i64 0)) (ds := []) #[Z,Z,Z,Z,Z,Z,Z,Z,Z,Z,Z] (by kernel_rfl) rfl rfl ⟨(blk_cell BK109.out 0).trans rfl, (blk_cell BK109.out 1).trans rfl⟩ (fun hHeld => ?_); refine with_tabW malthouseref11_Scan.tab36 malthouseref11_Scan.bits36 (fun HT_ HW_ => ?_)
        generalize wc.drew = w94 at HO_16 BK101 BK102 BK105 BK109 HB hHeld ⊢
        refine qpu 1 (some 128) ?_
        refine qpu 2 (some 129) ?_
        refine qpu 4 (some 131) ?_
        refine qpu 5 (some 132) ?_
        refine qtw2 0 (some 127) hHeld ?_
        refine qtw2 3 (some 130) hHeld ?_
        refine qpu 6 (some 133) ?_
        refine one_ (i := 7) (N := none) #[Y,Y,Y,Y,Y,Y,Y,Y,Z,Z,Z] rfl rfl (one_of HT_.out (by kernel_rfl)) (by decide) (fun K hK => ?_)
        have hs95 : w94.cell? ⟨gb102, 0, none⟩ = some (.int .i64 x103000_31) := (blk_cell BK102.out 0).trans rfl
        have hfs95 := blk_frozen BK102.out 0
        have hns95_0 := NB101_102.out
        have hns95_2 := NB105_102.out
        have hns95_3 := NB109_102.out
        have hms95_0 := NB102_101.out
        have hms95_2 := NB102_105.out
        have hms95_3 := NB102_109.out
        have hs96 : w94.cell? ⟨gb102, 1, none⟩ = some (.int .i64 x103001_31) := (blk_cell BK102.out 1).trans rfl
        have hfs96 := blk_frozen BK102.out 1
        have hns96_0 := NB101_102.out
        have hns96_2 := NB105_102.out
        have hns96_3 := NB109_102.out
        have hms96_0 := NB102_101.out
        have hms96_2 := NB102_105.out
        have hms96_3 := NB102_109.out
        refine skip_ (w1 := ?_) (by rfl) rfl ?_ ?_
        rotate_left
        ·go_simp
         rfl
        refine hK.out _ _ ⟨((cell_far (p := ⟨gb102, _, none⟩) NB109_102.out _).trans (((cell_far (p := ⟨gb102, _, none⟩) NB109_102.out _).trans (hHeld.1)))), ((cell_far (p := ⟨gb102, _, none⟩) NB109_102.out _).trans (((cell_far (p := ⟨gb102, _, none⟩) NB109_102.out _).trans (hHeld.2))))⟩ (fun hHeld => ?_)
        clear hK K
        refine qpu 8 (some 7) ?_
        refine qpu 9 (some 8) ?_
        refine qpu 10 (some 9) ?_
        refine done_ (done_of HT_.out (by kernel_rfl)) ?_
        try go_wp2
        refine bodyPost_ret (results_list (rs := [.cell 6 57, .tmp 7, .tmp 8, .tmp 9]) rfl (by simp) (.cell gb102 57 #[.int .i64 (wrap64 (a1_0 + 1)), .int .i64 0] (0, 0) _ rfl qy102 Tryd.underlying57 rfl (by kernel_rfl) (.tmp (.tmp (.tmp .nil))))) rfl ?_
        exact ⟨_, by first | rfl | (simp [errW_none, errW_some] <;> rfl) | (simp [*, errW_none, errW_some] <;> rfl), by (with_reducible repeat (first | apply Kd.R_alloc | apply Kd.R_drewN | apply Kd.R_drew)); exact Kd.R_mono (Kd.R_far (p := ⟨gb102, 1, none⟩) (Kd.R_far (p := ⟨gb102, 0, none⟩) (Kd.R_types HO_16.out BK102.out (by decide)) (fun _ hk => hk.2) (.int .i64 (wrap64 (a1_0 + 1)))) (fun _ hk => hk.2) (.int .i64 0)) (fun _ hk => trivial), qb⟩
       rw [if_neg c81] at H
       obtain ⟨c81b0, c81b1⟩ := qd c81
       by_cases c97 : ((rd_T67 l0 a1_0).f0) = 2
       ·rw [if_pos c97] at H
        obtain ⟨c97b0, c97b1⟩ := qe c97
        clear c97
        by_cases c98 : a1_1 > 1
        ·rw [if_pos c98] at H
         have c98b0 : decide (1 < a1_1) = true := decide_eq_true c98
         clear c98
         by_cases c99 : a1_1 = 0
         ·rw [if_pos c99] at H
          obtain ⟨c99b0, c99b1⟩ := qe c99
          clear c99
          by_cases c100 : x12_31 > 0
          ·rw [if_pos c100] at H
           have c100b0 : decide (0 < x12_31) = true := decide_eq_true c100
           clear c100
           simp only [Option.some.injEq, Prod.mk.injEq] at H
           obtain ⟨rfl, rfl, rfl, rfl, rfl⟩ := H
           have hnb101 := NB101_102.out
           have hnc101 := NB102_101.out
           have hnb102 := NB101_105.out
           have hnc102 := NB105_101.out
           have hnb103 := NB101_109.out
           have hnc103 := NB109_101.out
           obtain ⟨_, _, _, _⟩ := q2 BK101.out
           have hnb105 := NB109_102.out
           have hnc105 := NB102_109.out
           have hnb106 := NB109_105.out
           have hnc106 := NB105_109.out
           obtain ⟨_, _, _, _⟩ := q2 BK109.out
           try go_wp2
           have n0_ : Aside0 (Kd.R k72 72 ((((wc.setCell ⟨gb109, 0, none⟩ (.int .i64 a1_0)).setCell ⟨gb109, 1, none⟩ (.int .i64 (wrap64 (a1_1 - 1)))).setCell ⟨gb109, 0, none⟩ (.int .i64 a1_0)).setCell ⟨gb109, 1, none⟩ (.int .i64 x12_31)) w.heap.size (fun _ => True) (.slice none 0 0) ([] : List (S72))) := ⟨by (with_reducible repeat (first | apply Kd.R_alloc | apply Kd.R_drewN | apply Kd.R_drew)); exact Kd.R_mono (Kd.R_far (p := ⟨gb109, 1, none⟩) (Kd.R_far (p := ⟨gb109, 0, none⟩) (Kd.R_far (p := ⟨gb109, 1, none⟩) (Kd.R_far (p := ⟨gb109, 0, none⟩) (Kd.R_types HO_16.out BK109.out (by decide)) (fun _ hk => hk.2) (.int .i64 a1_0)) (fun _ hk => hk.2) (.int .i64 (wrap64 (a1_1 - 1)))) (fun _ hk => hk.2) (.int .i64 a1_0)) (fun _ hk => hk.2) (.int .i64 x12_31)) (fun _ hk => trivial)⟩
           have n1_ : Aside0 (((((wc.setCell ⟨gb109, 0, none⟩ (.int .i64 a1_0)).setCell ⟨gb109, 1, none⟩ (.int .i64 (wrap64 (a1_1 - 1)))).setCell ⟨gb109, 0, none⟩ (.int .i64 a1_0)).setCell ⟨gb109, 1, none⟩ (.int .i64 x12_31)).heap[gb101]? = some (.cells #[.int .i64 a1_0, .int .i64 a1_1] 57 (0, 0))) := ⟨by (with_reducible repeat (first | refine blk_drewN ?_ _ | refine blk_drew ?_ | refine blk_alloc ?_ _)); refine blk_far ?_ NB101_109.out _; (with_reducible repeat (first | refine blk_drewN ?_ _ | refine blk_drew ?_ | refine blk_alloc ?_ _)); refine blk_far ?_ NB101_109.out _; (with_reducible repeat (first | refine blk_drewN ?_ _ | refine blk_drew ?_ | refine blk_alloc ?_ _)); refine blk_far ?_ NB101_109.out _; (with_reducible repeat (first | refine blk_drewN ?_ _ | refine blk_drew ?_ | refine blk_alloc ?_ _)); refine blk_far ?_ NB101_109.out _; (with_reducible repeat (first | refine blk_drewN ?_ _ | refine blk_drew ?_ | refine blk_alloc ?_ _)); exact BK101.out⟩
           have n2_ : Aside0 (((((wc.setCell ⟨gb109, 0, none⟩ (.int .i64 a1_0)).setCell ⟨gb109, 1, none⟩ (.int .i64 (wrap64 (a1_1 - 1)))).setCell ⟨gb109, 0, none⟩ (.int .i64 a1_0)).setCell ⟨gb109, 1, none⟩ (.int .i64 x12_31)).heap[gb102]? = some (.cells #[.int .i64 x103000_31, .int .i64 x103001_31] 57 (0, 0))) := ⟨by (with_reducible repeat (first | refine blk_drewN ?_ _ | refine blk_drew ?_ | refine blk_alloc ?_ _)); refine blk_far ?_ NB102_109.out _; (with_reducible repeat (first | refine blk_drewN ?_ _ | refine blk_drew ?_ | refine blk_alloc ?_ _)); refine blk_far ?_ NB102_109.out _; (with_reducible repeat (first | refine blk_drewN ?_ _ | refine blk_drew ?_ | refine blk_alloc ?_ _)); refine blk_far ?_ NB102_109.out _; (with_reducible repeat (first | refine blk_drewN ?_ _ | refine blk_drew ?_ | refine blk_alloc ?_ _)); refine blk_far ?_ NB102_109.out _; (with_reducible repeat (first | refine blk_drewN ?_ _ | refine blk_drew ?_ | refine blk_alloc ?_ _)); exact BK102.out⟩
           have n3_ : Aside0 (((((wc.setCell ⟨gb109, 0, none⟩ (.int .i64 a1_0)).setCell ⟨gb109, 1, none⟩ (.int .i64 (wrap64 (a1_1 - 1)))).setCell ⟨gb109, 0, none⟩ (.int .i64 a1_0)).setCell ⟨gb109, 1, none⟩ (.int .i64 x12_31)).heap[gb105]? = some (.cells #[.int .i64 ((rd_T67 l0 a1_0).f0), .string ((rd_T67 l0 a1_0).f1), .string ((rd_T67 l0 a1_0).f2), .int .i64 ((rd_T67 l0 a1_0).f3.f0), .int .i64 ((rd_T67 l0 a1_0).f3.f1), .string ((rd_T67 l0 a1_0).f3.f2), .slice A104_6 ((rd_T67 l0 a1_0).f3.f3).length c104_6, .int .i64 ((rd_T67 l0 a1_0).f4)] 67 (0, 0))) := ⟨by (with_reducible repeat (first | refine blk_drewN ?_ _ | refine blk_drew ?_ | refine blk_alloc ?_ _)); refine blk_far ?_ NB105_109.out _; (with_reducible repeat (first | refine blk_drewN ?_ _ | refine blk_drew ?_ | refine blk_alloc ?_ _)); refine blk_far ?_ NB105_109.out _; (with_reducible repeat (first | refine blk_drewN ?_ _ | refine blk_drew ?_ | refine blk_alloc ?_ _)); refine blk_far ?_ NB105_109.out _; (with_reducible repeat (first | refine blk_drewN ?_ _ | refine blk_drew ?_ | refine blk_alloc ?_ _)); refine blk_far ?_ NB105_109.out _; (with_reducible repeat (first | refine blk_drewN ?_ _ | refine blk_drew ?_ | refine blk_alloc ?_ _)); exact BK105.out⟩
           have n4_ : Aside0 (((((wc.setCell ⟨gb109, 0, none⟩ (.int .i64 a1_0)).setCell ⟨gb109, 1, none⟩ (.int .i64 (wrap64 (a1_1 - 1)))).setCell ⟨gb109, 0, none⟩ (.int .i64 a1_0)).setCell ⟨gb109, 1, none⟩ (.int .i64 x12_31)).heap[gb109]? = some (.cells #[.int .i64 a1_0, .int .i64 x12_31] 57 (0, 0))) := qY109
           have n5_ : Aside0 (Below w.heap.size w ((((wc.setCell ⟨gb109, 0, none⟩ (.int .i64 a1_0)).setCell ⟨gb109, 1, none⟩ (.int .i64 (wrap64 (a1_1 - 1)))).setCell ⟨gb109, 0, none⟩ (.int .i64 a1_0)).setCell ⟨gb109, 1, none⟩ (.int .i64 x12_31))) := qB
           generalize ((((wc.setCell ⟨gb109, 0, none⟩ (.int .i64 a1_0)).setCell ⟨gb109, 1, none⟩ (.int .i64 (wrap64 (a1_1 - 1)))).setCell ⟨gb109, 0, none⟩ (.int .i64 a1_0)).setCell ⟨gb109, 1, none⟩ (.int .i64 x12_31)) = w108 at n0_ n1_ n2_ n3_ n4_ n5_ ⊢
           have HO_16 := n0_
           have BK101 := n1_
           have BK102 := n2_
           have BK105 := n3_
           have BK109 := n4_
           have HB := n5_
           clear n0_ n1_ n2_ n3_ n4_ n5_
           replace HO_16 := Aside0.mk (Kd.R_drew HO_16.out)
           replace BK101 := Aside0.mk (blk_drew BK101.out)
           replace BK102 := Aside0.mk (blk_drew BK102.out)
           replace BK105 := Aside0.mk (blk_drew BK105.out)
           replace BK109 := Aside0.mk (blk_drew BK109.out)
           replace HB := Aside0.mk (below_drew1 HB.out)
           refine start_ (n := 11) (S := fun w' => w'.cell? ⟨gb109, 0, none⟩ = some (.int .i64 a1_0) ∧ w'.cell? ⟨gb109, 1, none⟩ = some (.int .i64 x12_31)) (ds := []) #[Z,Z,Z,Z,Z,Z,Z,Z,Z,Z,Z] (by kernel_rfl) rfl rfl ⟨(blk_cell BK109.out 0).trans rfl, (blk_cell BK109.out 1).trans rfl⟩ (fun hHeld => ?_); refine with_tabW malthouseref11_Scan.tab36 malthouseref11_Scan.bits36 (fun HT_ HW_ => ?_)
           generalize w108.drew = w109 at HO_16 BK101 BK102 BK105 BK109 HB hHeld ⊢
           refine qpu 1 (some 128) ?_
           refine qpu 2 (some 129) ?_
           refine qpu 4 (some 131) ?_
           refine qpu 5 (some 132) ?_
           refine qtw2 0 (some 127) hHeld ?_
           refine qtw2 3 (some 130) hHeld ?_
           refine qpu 6 (some 133) ?_
           refine one_ (i := 7) (N := none) #[Y,Y,Y,Y,Y,Y,Y,Y,Z,Z,Z] rfl rfl (one_of HT_.out (by kernel_rfl)) (by decide) (fun K hK => ?_)
           have hs110 : w109.cell? ⟨gb102, 0, none⟩ = some (.int .i64 x103000_31) := (blk_cell BK102.out 0).trans rfl
           have hfs110 := blk_frozen BK102.out 0
           have hns110_0 := NB101_102.out
           have hns110_2 := NB105_102.out
           have hns110_3 := NB109_102.out
           have hms110_0 := NB102_101.out
           have hms110_2 := NB102_105.out
           have hms110_3 := NB102_109.out
           have hs111 : w109.cell? ⟨gb102, 1, none⟩ = some (.int .i64 x103001_31) := (blk_cell BK102.out 1).trans rfl
           have hfs111 := blk_frozen BK102.out 1
           have hns111_0 := NB101_102.out
           have hns111_2 := NB105_102.out
           have hns111_3 := NB109_102.out
           have hms111_0 := NB102_101.out
           have hms111_2 := NB102_105.out
           have hms111_3 := NB102_109.out
           refine skip_ (w1 := ?_) (by rfl) rfl ?_ ?_
           rotate_left
           ·go_simp
            rfl
           refine hK.out _ _ ⟨((cell_far (p := ⟨gb102, _, none⟩) NB109_102.out _).trans (((cell_far (p := ⟨gb102, _, none⟩) NB109_102.out _).trans (hHeld.1)))), ((cell_far (p := ⟨gb102, _, none⟩) NB109_102.out _).trans (((cell_far (p := ⟨gb102, _, none⟩) NB109_102.out _).trans (hHeld.2))))⟩ (fun hHeld => ?_)
           clear hK K
           refine qpu 8 (some 7) ?_
           refine qpu 9 (some 8) ?_
           refine qpu 10 (some 9) ?_
           refine done_ (done_of HT_.out (by kernel_rfl)) ?_
           try go_wp2
           refine bodyPost_ret (results_list (rs := [.cell 6 57, .tmp 7, .tmp 8, .tmp 9]) rfl (by simp) (.cell gb102 57 #[.int .i64 a1_0, .int .i64 x12_31] (0, 0) _ rfl qy102 Tryd.underlying57 rfl (by kernel_rfl) (.tmp (.tmp (.tmp .nil))))) rfl ?_
           exact ⟨_, by first | rfl | (simp [errW_none, errW_some] <;> rfl) | (simp [*, errW_none, errW_some] <;> rfl), by (with_reducible repeat (first | apply Kd.R_alloc | apply Kd.R_drewN | apply Kd.R_drew)); exact Kd.R_mono (Kd.R_far (p := ⟨gb102, 1, none⟩) (Kd.R_far (p := ⟨gb102, 0, none⟩) (Kd.R_types HO_16.out BK102.out (by decide)) (fun _ hk => hk.2) (.int .i64 a1_0)) (fun _ hk => hk.2) (.int .i64 x12_31)) (fun _ hk => trivial), qb⟩
          rw [if_neg c100] at H
          have c100b0 : decide (0 < x12_31) = false := decide_eq_false c100
          clear c100
          simp only [Option.some.injEq, Prod.mk.injEq] at H
          obtain ⟨rfl, rfl, rfl, rfl, rfl⟩ := H
          have hnb112 := NB101_102.out
          have hnc112 := NB102_101.out
          have hnb113 := NB101_105.out
          have hnc113 := NB105_101.out
          have hnb114 := NB101_109.out
          have hnc114 := NB109_101.out
          obtain ⟨_, _, _, _⟩ := q2 BK101.out
          have hnb116 := NB109_102.out
          have hnc116 := NB102_109.out
          have hnb117 := NB109_105.out
          have hnc117 := NB105_109.out
          obtain ⟨_, _, _, _⟩ := q2 BK109.out
          try go_wp2
          have n0_ : Aside0 (Kd.R k72 72 ((wc.setCell ⟨gb109, 0, none⟩ (.int .i64 a1_0)).setCell ⟨gb109, 1, none⟩ (.int .i64 (wrap64 (a1_1 - 1)))) w.heap.size (fun _ => True) (.slice none 0 0) ([] : List (S72))) := ⟨by (with_reducible repeat (first | apply Kd.R_alloc | apply Kd.R_drewN | apply Kd.R_drew)); exact Kd.R_mono (Kd.R_far (p := ⟨gb109, 1, none⟩) (Kd.R_far (p := ⟨gb109, 0, none⟩) (Kd.R_types HO_16.out BK109.out (by decide)) (fun _ hk => hk.2) (.int .i64 a1_0)) (fun _ hk => hk.2) (.int .i64 (wrap64 (a1_1 - 1)))) (fun _ hk => trivial)⟩
          have n1_ : Aside0 (((wc.setCell ⟨gb109, 0, none⟩ (.int .i64 a1_0)).setCell ⟨gb109, 1, none⟩ (.int .i64 (wrap64 (a1_1 - 1)))).heap[gb101]? = some (.cells #[.int .i64 a1_0, .int .i64 a1_1] 57 (0, 0))) := ⟨by (with_reducible repeat (first | refine blk_drewN ?_ _ | refine blk_drew ?_ | refine blk_alloc ?_ _)); refine blk_far ?_ NB101_109.out _; (with_reducible repeat (first | refine blk_drewN ?_ _ | refine blk_drew ?_ | refine blk_alloc ?_ _)); refine blk_far ?_ NB101_109.out _; (with_reducible repeat (first | refine blk_drewN ?_ _ | refine blk_drew ?_ | refine blk_alloc ?_ _)); exact BK101.out⟩
          have n2_ : Aside0 (((wc.setCell ⟨gb109, 0, none⟩ (.int .i64 a1_0)).setCell ⟨gb109, 1, none⟩ (.int .i64 (wrap64 (a1_1 - 1)))).heap[gb102]? = some (.cells #[.int .i64 x103000_31, .int .i64 x103001_31] 57 (0, 0))) := ⟨by (with_reducible repeat (first | refine blk_drewN ?_ _ | refine blk_drew ?_ | refine blk_alloc ?_ _)); refine blk_far ?_ NB102_109.out _; (with_reducible repeat (first | refine blk_drewN ?_ _ | refine blk_drew ?_ | refine blk_alloc ?_ _)); refine blk_far ?_ NB102_109.out _; (with_reducible repeat (first | refine blk_drewN ?_ _ | refine blk_drew ?_ | refine blk_alloc ?_ _)); exact BK102.out⟩
          have n3_ : Aside0 (((wc.setCell ⟨gb109, 0, none⟩ (.int .i64 a1_0)).setCell ⟨gb109, 1, none⟩ (.int .i64 (wrap64 (a1_1 - 1)))).heap[gb105]? = some (.cells #[.int .i64 ((rd_T67 l0 a1_0).f0), .string ((rd_T67 l0 a1_0).f1), .string ((rd_T67 l0 a1_0).f2), .int .i64 ((rd_T67 l0 a1_0).f3.f0), .int .i64 ((rd_T67 l0 a1_0).f3.f1), .string ((rd_T67 l0 a1_0).f3.f2), .slice A104_6 ((rd_T67 l0 a1_0).f3.f3).length c104_6, .int .i64 ((rd_T67 l0 a1_0).f4)] 67 (0, 0))) := ⟨by (with_reducible repeat (first | refine blk_drewN ?_ _ | refine blk_drew ?_ | refine blk_alloc ?_ _)); refine blk_far ?_ NB105_109.out _; (with_reducible repeat (first | refine blk_drewN ?_ _ | refine blk_drew ?_ | refine blk_alloc ?_ _)); refine blk_far ?_ NB105_109.out _; (with_reducible repeat (first | refine blk_drewN ?_ _ | refine blk_drew ?_ | refine blk_alloc ?_ _)); exact BK105.out⟩
          have n4_ : Aside0 (((wc.setCell ⟨gb109, 0, none⟩ (.int .i64 a1_0)).setCell ⟨gb109, 1, none⟩ (.int .i64 (wrap64 (a1_1 - 1)))).heap[gb109]? = some (.cells #[.int .i64 a1_0, .int .i64 (wrap64 (a1_1 - 1))] 57 (0, 0))) := qY109
          have n5_ : Aside0 (Below w.heap.size w ((wc.setCell ⟨gb109, 0, none⟩ (.int .i64 a1_0)).setCell ⟨gb109, 1, none⟩ (.int .i64 (wrap64 (a1_1 - 1))))) := qB
          generalize ((wc.setCell ⟨gb109, 0, none⟩ (.int .i64 a1_0)).setCell ⟨gb109, 1, none⟩ (.int .i64 (wrap64 (a1_1 - 1)))) = w119 at n0_ n1_ n2_ n3_ n4_ n5_ ⊢
          have HO_16 := n0_
          have BK101 := n1_
          have BK102 := n2_
          have BK105 := n3_
          have BK109 := n4_
          have HB := n5_
          clear n0_ n1_ n2_ n3_ n4_ n5_
          replace HO_16 := Aside0.mk (Kd.R_drew HO_16.out)
          replace BK101 := Aside0.mk (blk_drew BK101.out)
          replace BK102 := Aside0.mk (blk_drew BK102.out)
          replace BK105 := Aside0.mk (blk_drew BK105.out)
          replace BK109 := Aside0.mk (blk_drew BK109.out)
          replace HB := Aside0.mk (below_drew1 HB.out)
          refine start_ (n := 11) (S := fun w' => w'.cell? ⟨gb109, 0, none⟩ = some (.int .i64 a1_0) ∧ w'.cell? ⟨gb109, 1, none⟩ = some (.int .i64 (wrap64 (a1_1 - 1)))) (ds := []) #[Z,Z,Z,Z,Z,Z,Z,Z,Z,Z,Z] (by kernel_rfl) rfl rfl ⟨(blk_cell BK109.out 0).trans rfl, (blk_cell BK109.out 1).trans rfl⟩ (fun hHeld => ?_); refine with_tabW malthouseref11_Scan.tab36 malthouseref11_Scan.bits36 (fun HT_ HW_ => ?_)
          generalize w119.drew = w120 at HO_16 BK101 BK102 BK105 BK109 HB hHeld ⊢
          refine qpu 1 (some 128) ?_
          refine qpu 2 (some 129) ?_
          refine qpu 4 (some 131) ?_
          refine qpu 5 (some 132) ?_
          refine qtw2 0 (some 127) hHeld ?_
          refine qtw2 3 (some 130) hHeld ?_
          refine qpu 6 (some 133) ?_
          refine one_ (i := 7) (N := none) #[Y,Y,Y,Y,Y,Y,Y,Y,Z,Z,Z] rfl rfl (one_of HT_.out (by kernel_rfl)) (by decide) (fun K hK => ?_)
          have hs121 : w120.cell? ⟨gb102, 0, none⟩ = some (.int .i64 x103000_31) := (blk_cell BK102.out 0).trans rfl
          have hfs121 := blk_frozen BK102.out 0
          have hns121_0 := NB101_102.out
          have hns121_2 := NB105_102.out
          have hns121_3 := NB109_102.out
          have hms121_0 := NB102_101.out
          have hms121_2 := NB102_105.out
          have hms121_3 := NB102_109.out
          have hs122 : w120.cell? ⟨gb102, 1, none⟩ = some (.int .i64 x103001_31) := (blk_cell BK102.out 1).trans rfl
          have hfs122 := blk_frozen BK102.out 1
          have hns122_0 := NB101_102.out
          have hns122_2 := NB105_102.out
          have hns122_3 := NB109_102.out
          have hms122_0 := NB102_101.out
          have hms122_2 := NB102_105.out
          have hms122_3 := NB102_109.out
          refine skip_ (w1 := ?_) (by rfl) rfl ?_ ?_
          rotate_left
          ·go_simp
           rfl
          refine hK.out _ _ ⟨((cell_far (p := ⟨gb102, _, none⟩) NB109_102.out _).trans (((cell_far (p := ⟨gb102, _, none⟩) NB109_102.out _).trans (hHeld.1)))), ((cell_far (p := ⟨gb102, _, none⟩) NB109_102.out _).trans (((cell_far (p := ⟨gb102, _, none⟩) NB109_102.out _).trans (hHeld.2))))⟩ (fun hHeld => ?_)
          clear hK K
          refine qpu 8 (some 7) ?_
          refine qpu 9 (some 8) ?_
          refine qpu 10 (some 9) ?_
          refine done_ (done_of HT_.out (by kernel_rfl)) ?_
          try go_wp2
          refine bodyPost_ret (results_list (rs := [.cell 6 57, .tmp 7, .tmp 8, .tmp 9]) rfl (by simp) (.cell gb102 57 #[.int .i64 a1_0, .int .i64 (wrap64 (a1_1 - 1))] (0, 0) _ rfl qy102 Tryd.underlying57 rfl (by kernel_rfl) (.tmp (.tmp (.tmp .nil))))) rfl ?_
          exact ⟨_, by first | rfl | (simp [errW_none, errW_some] <;> rfl) | (simp [*, errW_none, errW_some] <;> rfl), by (with_reducible repeat (first | apply Kd.R_alloc | apply Kd.R_drewN | apply Kd.R_drew)); exact Kd.R_mono (Kd.R_far (p := ⟨gb102, 1, none⟩) (Kd.R_far (p := ⟨gb102, 0, none⟩) (Kd.R_types HO_16.out BK102.out (by decide)) (fun _ hk => hk.2) (.int .i64 a1_0)) (fun _ hk => hk.2) (.int .i64 (wrap64 (a1_1 - 1)))) (fun _ hk => trivial), qb⟩
         rw [if_neg c99] at H
         obtain ⟨c99b0, c99b1⟩ := qd c99
         simp only [Option.some.injEq, Prod.mk.injEq] at H
         obtain ⟨rfl, rfl, rfl, rfl, rfl⟩ := H
         have hnb123 := NB101_102.out
         have hnc123 := NB102_101.out
         have hnb124 := NB101_105.out
         have hnc124 := NB105_101.out
         have hnb125 := NB101_109.out
         have hnc125 := NB109_101.out
         obtain ⟨_, _, _, _⟩ := q2 BK101.out
         have hnb127 := NB109_102.out
         have hnc127 := NB102_109.out
         have hnb128 := NB109_105.out
         have hnc128 := NB105_109.out
         obtain ⟨_, _, _, _⟩ := q2 BK109.out
         try go_wp2
         have n0_ : Aside0 (Kd.R k72 72 ((wc.setCell ⟨gb109, 0, none⟩ (.int .i64 a1_0)).setCell ⟨gb109, 1, none⟩ (.int .i64 (wrap64 (a1_1 - 1)))) w.heap.size (fun _ => True) (.slice none 0 0) ([] : List (S72))) := ⟨by (with_reducible repeat (first | apply Kd.R_alloc | apply Kd.R_drewN | apply Kd.R_drew)); exact Kd.R_mono (Kd.R_far (p := ⟨gb109, 1, none⟩) (Kd.R_far (p := ⟨gb109, 0, none⟩) (Kd.R_types HO_16.out BK109.out (by decide)) (fun _ hk => hk.2) (.int .i64 a1_0)) (fun _ hk => hk.2) (.int .i64 (wrap64 (a1_1 - 1)))) (fun _ hk => trivial)⟩
         have n1_ : Aside0 (((wc.setCell ⟨gb109, 0, none⟩ (.int .i64 a1_0)).setCell ⟨gb109, 1, none⟩ (.int .i64 (wrap64 (a1_1 - 1)))).heap[gb101]? = some (.cells #[.int .i64 a1_0, .int .i64 a1_1] 57 (0, 0))) := ⟨by (with_reducible repeat (first | refine blk_drewN ?_ _ | refine blk_drew ?_ | refine blk_alloc ?_ _)); refine blk_far ?_ NB101_109.out _; (with_reducible repeat (first | refine blk_drewN ?_ _ | refine blk_drew ?_ | refine blk_alloc ?_ _)); refine blk_far ?_ NB101_109.out _; (with_reducible repeat (first | refine blk_drewN ?_ _ | refine blk_drew ?_ | refine blk_alloc ?_ _)); exact BK101.out⟩
         have n2_ : Aside0 (((wc.setCell ⟨gb109, 0, none⟩ (.int .i64 a1_0)).setCell ⟨gb109, 1, none⟩ (.int .i64 (wrap64 (a1_1 - 1)))).heap[gb102]? = some (.cells #[.int .i64 x103000_31, .int .i64 x103001_31] 57 (0, 0))) := ⟨by (with_reducible repeat (first | refine blk_drewN ?_ _ | refine blk_drew ?_ | refine blk_alloc ?_ _)); refine blk_far ?_ NB102_109.out _; (with_reducible repeat (first | refine blk_drewN ?_ _ | refine blk_drew ?_ | refine blk_alloc ?_ _)); refine blk_far ?_ NB102_109.out _; (with_reducible repeat (first | refine blk_drewN ?_ _ | refine blk_drew ?_ | refine blk_alloc ?_ _)); exact BK102.out⟩
         have n3_ : Aside0 (((wc.setCell ⟨gb109, 0, none⟩ (.int .i64 a1_0)).setCell ⟨gb109, 1, none⟩ (.int .i64 (wrap64 (a1_1 - 1)))).heap[gb105]? = some (.cells #[.int .i64 ((rd_T67 l0 a1_0).f0), .string ((rd_T67 l0 a1_0).f1), .string ((rd_T67 l0 a1_0).f2), .int .i64 ((rd_T67 l0 a1_0).f3.f0), .int .i64 ((rd_T67 l0 a1_0).f3.f1), .string ((rd_T67 l0 a1_0).f3.f2), .slice A104_6 ((rd_T67 l0 a1_0).f3.f3).length c104_6, .int .i64 ((rd_T67 l0 a1_0).f4)] 67 (0, 0))) := ⟨by (with_reducible repeat (first | refine blk_drewN ?_ _ | refine blk_drew ?_ | refine blk_alloc ?_ _)); refine blk_far ?_ NB105_109.out _; (with_reducible repeat (first | refine blk_drewN ?_ _ | refine blk_drew ?_ | refine blk_alloc ?_ _)); refine blk_far ?_ NB105_109.out _; (with_reducible repeat (first | refine blk_drewN ?_ _ | refine blk_drew ?_ | refine blk_alloc ?_ _)); exact BK105.out⟩
         have n4_ : Aside0 (((wc.setCell ⟨gb109, 0, none⟩ (.int .i64 a1_0)).setCell ⟨gb109, 1, none⟩ (.int .i64 (wrap64 (a1_1 - 1)))).heap[gb109]? = some (.cells #[.int .i64 a1_0, .int .i64 (wrap64 (a1_1 - 1))] 57 (0, 0))) := qY109
         have n5_ : Aside0 (Below w.heap.size w ((wc.setCell ⟨gb109, 0, none⟩ (.int .i64 a1_0)).setCell ⟨gb109, 1, none⟩ (.int .i64 (wrap64 (a1_1 - 1))))) := qB
         generalize ((wc.setCell ⟨gb109, 0, none⟩ (.int .i64 a1_0)).setCell ⟨gb109, 1, none⟩ (.int .i64 (wrap64 (a1_1 - 1)))) = w130 at n0_ n1_ n2_ n3_ n4_ n5_ ⊢
         have HO_16 := n0_
         have BK101 := n1_
         have BK102 := n2_
         have BK105 := n3_
         have BK109 := n4_
         have HB := n5_
         clear n0_ n1_ n2_ n3_ n4_ n5_
         replace HO_16 := Aside0.mk (Kd.R_drew HO_16.out)
         replace BK101 := Aside0.mk (blk_drew BK101.out)
         replace BK102 := Aside0.mk (blk_drew BK102.out)
         replace BK105 := Aside0.mk (blk_drew BK105.out)
         replace BK109 := Aside0.mk (blk_drew BK109.out)
         replace HB := Aside0.mk (below_drew1 HB.out)
         refine start_ (n := 11) (S := fun w' => w'.cell? ⟨gb109, 0, none⟩ = some (.int .i64 a1_0) ∧ w'.cell? ⟨gb109, 1, none⟩ = some (.int .i64 (wrap64 (a1_1 - 1)))) (ds := []) #[Z,Z,Z,Z,Z,Z,Z,Z,Z,Z,Z] (by kernel_rfl) rfl rfl ⟨(blk_cell BK109.out 0).trans rfl, (blk_cell BK109.out 1).trans rfl⟩ (fun hHeld => ?_); refine with_tabW malthouseref11_Scan.tab36 malthouseref11_Scan.bits36 (fun HT_ HW_ => ?_)
         generalize w130.drew = w131 at HO_16 BK101 BK102 BK105 BK109 HB hHeld ⊢
         refine qpu 1 (some 128) ?_
         refine qpu 2 (some 129) ?_
         refine qpu 4 (some 131) ?_
         refine qpu 5 (some 132) ?_
         refine qtw2 0 (some 127) hHeld ?_
         refine qtw2 3 (some 130) hHeld ?_
         refine qpu 6 (some 133) ?_
         refine one_ (i := 7) (N := none) #[Y,Y,Y,Y,Y,Y,Y,Y,Z,Z,Z] rfl rfl (one_of HT_.out (by kernel_rfl)) (by decide) (fun K hK => ?_)
         have hs132 : w131.cell? ⟨gb102, 0, none⟩ = some (.int .i64 x103000_31) := (blk_cell BK102.out 0).trans rfl
         have hfs132 := blk_frozen BK102.out 0
         have hns132_0 := NB101_102.out
         have hns132_2 := NB105_102.out
         have hns132_3 := NB109_102.out
         have hms132_0 := NB102_101.out
         have hms132_2 := NB102_105.out
         have hms132_3 := NB102_109.out
         have hs133 : w131.cell? ⟨gb102, 1, none⟩ = some (.int .i64 x103001_31) := (blk_cell BK102.out 1).trans rfl
         have hfs133 := blk_frozen BK102.out 1
         have hns133_0 := NB101_102.out
         have hns133_2 := NB105_102.out
         have hns133_3 := NB109_102.out
         have hms133_0 := NB102_101.out
         have hms133_2 := NB102_105.out
         have hms133_3 := NB102_109.out
         refine skip_ (w1 := ?_) (by rfl) rfl ?_ ?_
         rotate_left
         ·go_simp
          rfl
         refine hK.out _ _ ⟨((cell_far (p := ⟨gb102, _, none⟩) NB109_102.out _).trans (((cell_far (p := ⟨gb102, _, none⟩) NB109_102.out _).trans (hHeld.1)))), ((cell_far (p := ⟨gb102, _, none⟩) NB109_102.out _).trans (((cell_far (p := ⟨gb102, _, none⟩) NB109_102.out _).trans (hHeld.2))))⟩ (fun hHeld => ?_)
         clear hK K
         refine qpu 8 (some 7) ?_
         refine qpu 9 (some 8) ?_
         refine qpu 10 (some 9) ?_
         refine done_ (done_of HT_.out (by kernel_rfl)) ?_
         try go_wp2
         refine bodyPost_ret (results_list (rs := [.cell 6 57, .tmp 7, .tmp 8, .tmp 9]) rfl (by simp) (.cell gb102 57 #[.int .i64 a1_0, .int .i64 (wrap64 (a1_1 - 1))] (0, 0) _ rfl qy102 Tryd.underlying57 rfl (by kernel_rfl) (.tmp (.tmp (.tmp .nil))))) rfl ?_
         exact ⟨_, by first | rfl | (simp [errW_none, errW_some] <;> rfl) | (simp [*, errW_none, errW_some] <;> rfl), by (with_reducible repeat (first | apply Kd.R_alloc | apply Kd.R_drewN | apply Kd.R_drew)); exact Kd.R_mono (Kd.R_far (p := ⟨gb102, 1, none⟩) (Kd.R_far (p := ⟨gb102, 0, none⟩) (Kd.R_types HO_16.out BK102.out (by decide)) (fun _ hk => hk.2) (.int .i64 a1_0)) (fun _ hk => hk.2) (.int .i64 (wrap64 (a1_1 - 1)))) (fun _ hk => trivial), qb⟩
        rw [if_neg c98] at H
        have c98b0 : decide (1 < a1_1) = false := decide_eq_false c98
        clear c98
        by_cases c134 : a1_1 = 0
        ·rw [if_pos c134] at H
         obtain ⟨c134b0, c134b1⟩ := qe c134
         clear c134
         by_cases c135 : x12_31 > 0
         ·rw [if_pos c135] at H
          have c135b0 : decide (0 < x12_31) = true := decide_eq_true c135
          clear c135
          simp only [Option.some.injEq, Prod.mk.injEq] at H
          obtain ⟨rfl, rfl, rfl, rfl, rfl⟩ := H
          have hnb136 := NB101_102.out
          have hnc136 := NB102_101.out
          have hnb137 := NB101_105.out
          have hnc137 := NB105_101.out
          have hnb138 := NB101_109.out
          have hnc138 := NB109_101.out
          obtain ⟨_, _, _, _⟩ := q2 BK101.out
          have hnb140 := NB109_102.out
          have hnc140 := NB102_109.out
          have hnb141 := NB109_105.out
          have hnc141 := NB105_109.out
          obtain ⟨_, _, _, _⟩ := q2 BK109.out
          try go_wp2
          have n0_ : Aside0 (Kd.R k72 72 ((wc.setCell ⟨gb109, 0, none⟩ (.int .i64 a1_0)).setCell ⟨gb109, 1, none⟩ (.int .i64 x12_31)) w.heap.size (fun _ => True) (.slice none 0 0) ([] : List (S72))) := ⟨by (with_reducible repeat (first | apply Kd.R_alloc | apply Kd.R_drewN | apply Kd.R_drew)); exact Kd.R_mono (Kd.R_far (p := ⟨gb109, 1, none⟩) (Kd.R_far (p := ⟨gb109, 0, none⟩) (Kd.R_types HO_16.out BK109.out (by decide)) (fun _ hk => hk.2) (.int .i64 a1_0)) (fun _ hk => hk.2) (.int .i64 x12_31)) (fun _ hk => trivial)⟩
          have n1_ : Aside0 (((wc.setCell ⟨gb109, 0, none⟩ (.int .i64 a1_0)).setCell ⟨gb109, 1, none⟩ (.int .i64 x12_31)).heap[gb101]? = some (.cells #[.int .i64 a1_0, .int .i64 a1_1] 57 (0, 0))) := ⟨by (with_reducible repeat (first | refine blk_drewN ?_ _ | refine blk_drew ?_ | refine blk_alloc ?_ _)); refine blk_far ?_ NB101_109.out _; (with_reducible repeat (first | refine blk_drewN ?_ _ | refine blk_drew ?_ | refine blk_alloc ?_ _)); refine blk_far ?_ NB101_109.out _; (with_reducible repeat (first | refine blk_drewN ?_ _ | refine blk_drew ?_ | refine blk_alloc ?_ _)); exact BK101.out⟩
          have n2_ : Aside0 (((wc.setCell ⟨gb109, 0, none⟩ (.int .i64 a1_0)).setCell ⟨gb109, 1, none⟩ (.int .i64 x12_31)).heap[gb102]? = some (.cells #[.int .i64 x103000_31, .int .i64 x103001_31] 57 (0, 0))) := ⟨by (with_reducible repeat (first | refine blk_drewN ?_ _ | refine blk_drew ?_ | refine blk_alloc ?_ _)); refine blk_far ?_ NB102_109.out _; (with_reducible repeat (first | refine blk_drewN ?_ _ | refine blk_drew ?_ | refine blk_alloc ?_ _)); refine blk_far ?_ NB102_109.out _; (with_reducible repeat (first | refine blk_drewN ?_ _ | refine blk_drew ?_ | refine blk_alloc ?_ _)); exact BK102.out⟩
          have n3_ : Aside0 (((wc.setCell ⟨gb109, 0, none⟩ (.int .i64 a1_0)).setCell ⟨gb109, 1, none⟩ (.int .i64 x12_31)).heap[gb105]? = some (.cells #[.int .i64 ((rd_T67 l0 a1_0).f0), .string ((rd_T67 l0 a1_0).f1), .string ((rd_T67 l0 a1_0).f2), .int .i64 ((rd_T67 l0 a1_0).f3.f0), .int .i64 ((rd_T67 l0 a1_0).f3.f1), .string ((rd_T67 l0 a1_0).f3.f2), .slice A104_6 ((rd_T67 l0 a1_0).f3.f3).length c104_6, .int .i64 ((rd_T67 l0 a1_0).f4)] 67 (0, 0))) := ⟨by (with_reducible repeat (first | refine blk_drewN ?_ _ | refine blk_drew ?_ | refine blk_alloc ?_ _)); refine blk_far ?_ NB105_109.out _; (with_reducible repeat (first | refine blk_drewN ?_ _ | refine blk_drew ?_ | refine blk_alloc ?_ _)); refine blk_far ?_ NB105_109.out _; (with_reducible repeat (first | refine blk_drewN ?_ _ | refine blk_drew ?_ | refine blk_alloc ?_ _)); exact BK105.out⟩
          have n4_ : Aside0 (((wc.setCell ⟨gb109, 0, none⟩ (.int .i64 a1_0)).setCell ⟨gb109, 1, none⟩ (.int .i64 x12_31)).heap[gb109]? = some (.cells #[.int .i64 a1_0, .int .i64 x12_31] 57 (0, 0))) := qY109
          have n5_ : Aside0 (Below w.heap.size w ((wc.setCell ⟨gb109, 0, none⟩ (.int .i64 a1_0)).setCell ⟨gb109, 1, none⟩ (.int .i64 x12_31))) := qB
          generalize ((wc.setCell ⟨gb109, 0, none⟩ (.int .i64 a1_0)).setCell ⟨gb109, 1, none⟩ (.int .i64 x12_31)) = w143 at n0_ n1_ n2_ n3_ n4_ n5_ ⊢
          have HO_16 := n0_
          have BK101 := n1_
          have BK102 := n2_
          have BK105 := n3_
          have BK109 := n4_
          have HB := n5_
          clear n0_ n1_ n2_ n3_ n4_ n5_
          replace HO_16 := Aside0.mk (Kd.R_drew HO_16.out)
          replace BK101 := Aside0.mk (blk_drew BK101.out)
          replace BK102 := Aside0.mk (blk_drew BK102.out)
          replace BK105 := Aside0.mk (blk_drew BK105.out)
          replace BK109 := Aside0.mk (blk_drew BK109.out)
          replace HB := Aside0.mk (below_drew1 HB.out)
          refine start_ (n := 11) (S := fun w' => w'.cell? ⟨gb109, 0, none⟩ = some (.int .i64 a1_0) ∧ w'.cell? ⟨gb109, 1, none⟩ = some (.int .i64 x12_31)) (ds := []) #[Z,Z,Z,Z,Z,Z,Z,Z,Z,Z,Z] (by kernel_rfl) rfl rfl ⟨(blk_cell BK109.out 0).trans rfl, (blk_cell BK109.out 1).trans rfl⟩ (fun hHeld => ?_); refine with_tabW malthouseref11_Scan.tab36 malthouseref11_Scan.bits36 (fun HT_ HW_ => ?_)
          generalize w143.drew = w144 at HO_16 BK101 BK102 BK105 BK109 HB hHeld ⊢
          refine qpu 1 (some 128) ?_
          refine qpu 2 (some 129) ?_
          refine qpu 4 (some 131) ?_
          refine qpu 5 (some 132) ?_
          refine qtw2 0 (some 127) hHeld ?_
          refine qtw2 3 (some 130) hHeld ?_
          refine qpu 6 (some 133) ?_
          refine one_ (i := 7) (N := none) #[Y,Y,Y,Y,Y,Y,Y,Y,Z,Z,Z] rfl rfl (one_of HT_.out (by kernel_rfl)) (by decide) (fun K hK => ?_)
          have hs145 : w144.cell? ⟨gb102, 0, none⟩ = some (.int .i64 x103000_31) := (blk_cell BK102.out 0).trans rfl
          have hfs145 := blk_frozen BK102.out 0
          have hns145_0 := NB101_102.out
          have hns145_2 := NB105_102.out
          have hns145_3 := NB109_102.out
          have hms145_0 := NB102_101.out
          have hms145_2 := NB102_105.out
          have hms145_3 := NB102_109.out
          have hs146 : w144.cell? ⟨gb102, 1, none⟩ = some (.int .i64 x103001_31) := (blk_cell BK102.out 1).trans rfl
          have hfs146 := blk_frozen BK102.out 1
          have hns146_0 := NB101_102.out
          have hns146_2 := NB105_102.out
          have hns146_3 := NB109_102.out
          have hms146_0 := NB102_101.out
          have hms146_2 := NB102_105.out
          have hms146_3 := NB102_109.out
          refine skip_ (w1 := ?_) (by rfl) rfl ?_ ?_
          rotate_left
          ·go_simp
           rfl
          refine hK.out _ _ ⟨((cell_far (p := ⟨gb102, _, none⟩) NB109_102.out _).trans (((cell_far (p := ⟨gb102, _, none⟩) NB109_102.out _).trans (hHeld.1)))), ((cell_far (p := ⟨gb102, _, none⟩) NB109_102.out _).trans (((cell_far (p := ⟨gb102, _, none⟩) NB109_102.out _).trans (hHeld.2))))⟩ (fun hHeld => ?_)
          clear hK K
          refine qpu 8 (some 7) ?_
          refine qpu 9 (some 8) ?_
          refine qpu 10 (some 9) ?_
          refine done_ (done_of HT_.out (by kernel_rfl)) ?_
          try go_wp2
          refine bodyPost_ret (results_list (rs := [.cell 6 57, .tmp 7, .tmp 8, .tmp 9]) rfl (by simp) (.cell gb102 57 #[.int .i64 a1_0, .int .i64 x12_31] (0, 0) _ rfl qy102 Tryd.underlying57 rfl (by kernel_rfl) (.tmp (.tmp (.tmp .nil))))) rfl ?_
          exact ⟨_, by first | rfl | (simp [errW_none, errW_some] <;> rfl) | (simp [*, errW_none, errW_some] <;> rfl), by (with_reducible repeat (first | apply Kd.R_alloc | apply Kd.R_drewN | apply Kd.R_drew)); exact Kd.R_mono (Kd.R_far (p := ⟨gb102, 1, none⟩) (Kd.R_far (p := ⟨gb102, 0, none⟩) (Kd.R_types HO_16.out BK102.out (by decide)) (fun _ hk => hk.2) (.int .i64 a1_0)) (fun _ hk => hk.2) (.int .i64 x12_31)) (fun _ hk => trivial), qb⟩
         rw [if_neg c135] at H
         have c135b0 : decide (0 < x12_31) = false := decide_eq_false c135
         clear c135
         simp only [Option.some.injEq, Prod.mk.injEq] at H
         obtain ⟨rfl, rfl, rfl, rfl, rfl⟩ := H
         have hnb147 := NB101_102.out
         have hnc147 := NB102_101.out
         have hnb148 := NB101_105.out
         have hnc148 := NB105_101.out
         have hnb149 := NB101_109.out
         have hnc149 := NB109_101.out
         obtain ⟨_, _, _, _⟩ := q2 BK101.out
         try go_wp2
         replace HO_16 := Aside0.mk (Kd.R_drew HO_16.out)
         replace BK101 := Aside0.mk (blk_drew BK101.out)
         replace BK102 := Aside0.mk (blk_drew BK102.out)
         replace BK105 := Aside0.mk (blk_drew BK105.out)
         replace BK109 := Aside0.mk (blk_drew BK109.out)
         replace HB := Aside0.mk (below_drew1 HB.out)
         refine start_ (n := 11) (S := fun w' => w'.cell? ⟨gb109, 0, none⟩ = some (.int .i64 (wrap64 (a1_0 + 1))) ∧ w'.cell? ⟨gb109, 1, none⟩ = some (.int .i64 0)) (ds := []) #[Z,Z,Z,Z,Z,Z,Z,Z,Z,Z,Z] (by kernel_rfl) rfl rfl ⟨(blk_cell BK109.out 0).trans rfl, (blk_cell BK109.out 1).trans rfl⟩ (fun hHeld => ?_); refine with_tabW malthouseref11_Scan.tab36 malthouseref11_Scan.bits36 (fun HT_ HW_ => ?_)
         generalize wc.drew = w151 at HO_16 BK101 BK102 BK105 BK109 HB hHeld ⊢
         refine qpu 1 (some 128) ?_
         refine qpu 2 (some 129) ?_
         refine qpu 4 (some 131) ?_
         refine qpu 5 (some 132) ?_
         refine qtw2 0 (some 127) hHeld ?_
         refine qtw2 3 (some 130) hHeld ?_
         refine qpu 6 (some 133) ?_
         refine one_ (i := 7) (N := none) #[Y,Y,Y,Y,Y,Y,Y,Y,Z,Z,Z] rfl rfl (one_of HT_.out (by kernel_rfl)) (by decide) (fun K hK => ?_)
         have hs152 : w151.cell? ⟨gb102, 0, none⟩ = some (.int .i64 x103000_31) := (blk_cell BK102.out 0).trans rfl
         have hfs152 := blk_frozen BK102.out 0
         have hns152_0 := NB101_102.out
         have hns152_2 := NB105_102.out
         have hns152_3 := NB109_102.out
         have hms152_0 := NB102_101.out
         have hms152_2 := NB102_105.out
         have hms152_3 := NB102_109.out
         have hs153 : w151.cell? ⟨gb102, 1, none⟩ = some (.int .i64 x103001_31) := (blk_cell BK102.out 1).trans rfl
         have hfs153 := blk_frozen BK102.out 1
         have hns153_0 := NB101_102.out
         have hns153_2 := NB105_102.out
         have hns153_3 := NB109_102.out
         have hms153_0 := NB102_101.out
         have hms153_2 := NB102_105.out
         have hms153_3 := NB102_109.out
         refine skip_ (w1 := ?_) (by rfl) rfl ?_ ?_
         rotate_left
         ·go_simp
          rfl
         refine hK.out _ _ ⟨((cell_far (p := ⟨gb102, _, none⟩) NB109_102.out _).trans (((cell_far (p := ⟨gb102, _, none⟩) NB109_102.out _).trans (hHeld.1)))), ((cell_far (p := ⟨gb102, _, none⟩) NB109_102.out _).trans (((cell_far (p := ⟨gb102, _, none⟩) NB109_102.out _).trans (hHeld.2))))⟩ (fun hHeld => ?_)
         clear hK K
         refine qpu 8 (some 7) ?_
         refine qpu 9 (some 8) ?_
         refine qpu 10 (some 9) ?_
         refine done_ (done_of HT_.out (by kernel_rfl)) ?_
         try go_wp2
         refine bodyPost_ret (results_list (rs := [.cell 6 57, .tmp 7, .tmp 8, .tmp 9]) rfl (by simp) (.cell gb102 57 #[.int .i64 (wrap64 (a1_0 + 1)), .int .i64 0] (0, 0) _ rfl qy102 Tryd.underlying57 rfl (by kernel_rfl) (.tmp (.tmp (.tmp .nil))))) rfl ?_
         exact ⟨_, by first | rfl | (simp [errW_none, errW_some] <;> rfl) | (simp [*, errW_none, errW_some] <;> rfl), by (with_reducible repeat (first | apply Kd.R_alloc | apply Kd.R_drewN | apply Kd.R_drew)); exact Kd.R_mono (Kd.R_far (p := ⟨gb102, 1, none⟩) (Kd.R_far (p := ⟨gb102, 0, none⟩) (Kd.R_types HO_16.out BK102.out (by decide)) (fun _ hk => hk.2) (.int .i64 (wrap64 (a1_0 + 1)))) (fun _ hk => hk.2) (.int .i64 0)) (fun _ hk => trivial), qb⟩
        rw [if_neg c134] at H
        obtain ⟨c134b0, c134b1⟩ := qd c134
        simp only [Option.some.injEq, Prod.mk.injEq] at H
        obtain ⟨rfl, rfl, rfl, rfl, rfl⟩ := H
        have hnb154 := NB101_102.out
        have hnc154 := NB102_101.out
        have hnb155 := NB101_105.out
        have hnc155 := NB105_101.out
        have hnb156 := NB101_109.out
        have hnc156 := NB109_101.out
        obtain ⟨_, _, _, _⟩ := q2 BK101.out
        try go_wp2
        replace HO_16 := Aside0.mk (Kd.R_drew HO_16.out)
        replace BK101 := Aside0.mk (blk_drew BK101.out)
        replace BK102 := Aside0.mk (blk_drew BK102.out)
        replace BK105 := Aside0.mk (blk_drew BK105.out)
        replace BK109 := Aside0.mk (blk_drew BK109.out)
        replace HB := Aside0.mk (below_drew1 HB.out)
        refine start_ (n := 11) (S := fun w' => w'.cell? ⟨gb109, 0, none⟩ = some (.int .i64 (wrap64 (a1_0 + 1))) ∧ w'.cell? ⟨gb109, 1, none⟩ = some (.int .i64 0)) (ds := []) #[Z,Z,Z,Z,Z,Z,Z,Z,Z,Z,Z] (by kernel_rfl) rfl rfl ⟨(blk_cell BK109.out 0).trans rfl, (blk_cell BK109.out 1).trans rfl⟩ (fun hHeld => ?_); refine with_tabW malthouseref11_Scan.tab36 malthouseref11_Scan.bits36 (fun HT_ HW_ => ?_)
        generalize wc.drew = w158 at HO_16 BK101 BK102 BK105 BK109 HB hHeld ⊢
        refine qpu 1 (some 128) ?_
        refine qpu 2 (some 129) ?_
        refine qpu 4 (some 131) ?_
        refine qpu 5 (some 132) ?_
        refine qtw2 0 (some 127) hHeld ?_
        refine qtw2 3 (some 130) hHeld ?_
        refine qpu 6 (some 133) ?_
        refine one_ (i := 7) (N := none) #[Y,Y,Y,Y,Y,Y,Y,Y,Z,Z,Z] rfl rfl (one_of HT_.out (by kernel_rfl)) (by decide) (fun K hK => ?_)
        have hs159 : w158.cell? ⟨gb102, 0, none⟩ = some (.int .i64 x103000_31) := (blk_cell BK102.out 0).trans rfl
        have hfs159 := blk_frozen BK102.out 0
        have hns159_0 := NB101_102.out
        have hns159_2 := NB105_102.out
        have hns159_3 := NB109_102.out
        have hms159_0 := NB102_101.out
        have hms159_2 := NB102_105.out
        have hms159_3 := NB102_109.out
        have hs160 : w158.cell? ⟨gb102, 1, none⟩ = some (.int .i64 x103001_31) := (blk_cell BK102.out 1).trans rfl
        have hfs160 := blk_frozen BK102.out 1
        have hns160_0 := NB101_102.out
        have hns160_2 := NB105_102.out
        have hns160_3 := NB109_102.out
        have hms160_0 := NB102_101.out
        have hms160_2 := NB102_105.out
        have hms160_3 := NB102_109.out
        refine skip_ (w1 := ?_) (by rfl) rfl ?_ ?_
        rotate_left
        ·go_simp
         rfl
        refine hK.out _ _ ⟨((cell_far (p := ⟨gb102, _, none⟩) NB109_102.out _).trans (((cell_far (p := ⟨gb102, _, none⟩) NB109_102.out _).trans (hHeld.1)))), ((cell_far (p := ⟨gb102, _, none⟩) NB109_102.out _).trans (((cell_far (p := ⟨gb102, _, none⟩) NB109_102.out _).trans (hHeld.2))))⟩ (fun hHeld => ?_)
        clear hK K
        refine qpu 8 (some 7) ?_
        refine qpu 9 (some 8) ?_
        refine qpu 10 (some 9) ?_
        refine done_ (done_of HT_.out (by kernel_rfl)) ?_
        try go_wp2
        refine bodyPost_ret (results_list (rs := [.cell 6 57, .tmp 7, .tmp 8, .tmp 9]) rfl (by simp) (.cell gb102 57 #[.int .i64 (wrap64 (a1_0 + 1)), .int .i64 0] (0, 0) _ rfl qy102 Tryd.underlying57 rfl (by kernel_rfl) (.tmp (.tmp (.tmp .nil))))) rfl ?_
        exact ⟨_, by first | rfl | (simp [errW_none, errW_some] <;> rfl) | (simp [*, errW_none, errW_some] <;> rfl), by (with_reducible repeat (first | apply Kd.R_alloc | apply Kd.R_drewN | apply Kd.R_drew)); exact Kd.R_mono (Kd.R_far (p := ⟨gb102, 1, none⟩) (Kd.R_far (p := ⟨gb102, 0, none⟩) (Kd.R_types HO_16.out BK102.out (by decide)) (fun _ hk => hk.2) (.int .i64 (wrap64 (a1_0 + 1)))) (fun _ hk => hk.2) (.int .i64 0)) (fun _ hk => trivial), qb⟩
       rw [if_neg c97] at H
       obtain ⟨c97b0, c97b1⟩ := qd c97
       by_cases c161 : ((rd_T67 l0 a1_0).f0) = 6
       ·rw [if_pos c161] at H
        obtain ⟨c161b0, c161b1⟩ := qe c161
        clear c161
        by_cases c162 : ((rd_T67 l0 a1_0).f4) < 0
        ·rw [if_pos c162] at H
         have c162b0 : decide (((rd_T67 l0 a1_0).f4) < 0) = true := decide_eq_true c162
         clear c162
         simp only [Option.some.injEq, Prod.mk.injEq] at H
         obtain ⟨rfl, rfl, rfl, rfl, rfl⟩ := H
         have hnb163 := NB105_101.out
         have hnc163 := NB101_105.out
         have hnb164 := NB105_102.out
         have hnc164 := NB102_105.out
         have hnb165 := NB105_109.out
         have hnc165 := NB109_105.out
         obtain ⟨_, _, _, _, _, _, _, _, _, _, _, _, _, _, _, _⟩ := q8 BK105.out
         have hnb167 := NB101_102.out
         have hnc167 := NB102_101.out
         have hnb168 := NB101_109.out
         have hnc168 := NB109_101.out
         obtain ⟨_, _, _, _⟩ := q2 BK101.out
         have hnb170 := NB102_109.out
         have hnc170 := NB109_102.out
         obtain ⟨_, _, _, _⟩ := q2 BK102.out
         go_wp2
         refine bodyPost_ret (results_list (rs := [.cell 6 57, .tmp 7, .tmp 8, .tmp 9]) rfl (by simp) (.cell gb102 57 #[.int .i64 a1_0, .int .i64 a1_1] (0, 0) _ rfl qy102 Tryd.underlying57 rfl (by kernel_rfl) (.tmp (.tmp (.tmp .nil))))) rfl ?_
         exact ⟨_, by first | rfl | (simp [errW_none, errW_some] <;> rfl) | (simp [*, errW_none, errW_some] <;> rfl), by first | exact Kd.R_nil _ _ _ _ _ | exact Kd.N_nil _ _ _ _ _ | exact Kd.V_nil _ _ _ _ _ | exact Kd.Q_nil _ _ _ _ _ | exact Kd.S_nil _ _ _ _ _, qb⟩
        rw [if_neg c162] at H
        have c162b0 : decide (((rd_T67 l0 a1_0).f4) < 0) = false := decide_eq_false c162
        clear c162
        by_cases c172 : ((rd_T67 l0 a1_0).f4) > (l0.length : Int)
        ·rw [if_pos c172] at H
         have c172b0 : decide ((l0.length : Int) < ((rd_T67 l0 a1_0).f4)) = true := decide_eq_true c172
         clear c172
         simp only [Option.some.injEq, Prod.mk.injEq] at H
         obtain ⟨rfl, rfl, rfl, rfl, rfl⟩ := H
         have hnb173 := NB105_101.out
         have hnc173 := NB101_105.out
         have hnb174 := NB105_102.out
         have hnc174 := NB102_105.out
         have hnb175 := NB105_109.out
         have hnc175 := NB109_105.out
         obtain ⟨_, _, _, _, _, _, _, _, _, _, _, _, _, _, _, _⟩ := q8 BK105.out
         have hnb177 := NB101_102.out
         have hnc177 := NB102_101.out
         have hnb178 := NB101_109.out
         have hnc178 := NB109_101.out
         obtain ⟨_, _, _, _⟩ := q2 BK101.out
         have hnb180 := NB102_109.out
         have hnc180 := NB109_102.out
         obtain ⟨_, _, _, _⟩ := q2 BK102.out
         go_wp2
         refine bodyPost_ret (results_list (rs := [.cell 6 57, .tmp 7, .tmp 8, .tmp 9]) rfl (by simp) (.cell gb102 57 #[.int .i64 a1_0, .int .i64 a1_1] (0, 0) _ rfl qy102 Tryd.underlying57 rfl (by kernel_rfl) (.tmp (.tmp (.tmp .nil))))) rfl ?_
         exact ⟨_, by first | rfl | (simp [errW_none, errW_some] <;> rfl) | (simp [*, errW_none, errW_some] <;> rfl), by first | exact Kd.R_nil _ _ _ _ _ | exact Kd.N_nil _ _ _ _ _ | exact Kd.V_nil _ _ _ _ _ | exact Kd.Q_nil _ _ _ _ _ | exact Kd.S_nil _ _ _ _ _, qb⟩
        rw [if_neg c172] at H
        have c172b0 : decide ((l0.length : Int) < ((rd_T67 l0 a1_0).f4)) = false := decide_eq_false c172
        clear c172
        simp only [Option.some.injEq, Prod.mk.injEq] at H
        obtain ⟨rfl, rfl, rfl, rfl, rfl⟩ := H
        have hnb182 := NB105_101.out
        have hnc182 := NB101_105.out
        have hnb183 := NB105_102.out
        have hnc183 := NB102_105.out
        have hnb184 := NB105_109.out
        have hnc184 := NB109_105.out
        obtain ⟨_, _, _, _, _, _, _, _, _, _, _, _, _, _, _, _⟩ := q8 BK105.out
        have hnb186 := NB109_101.out
        have hnc186 := NB101_109.out
        have hnb187 := NB109_102.out
        have hnc187 := NB102_109.out
        obtain ⟨_, _, _, _⟩ := q2 BK109.out
        try go_wp2
        have n0_ : Aside0 (Kd.R k72 72 ((wc.setCell ⟨gb109, 0, none⟩ (.int .i64 ((rd_T67 l0 a1_0).f4))).setCell ⟨gb109, 1, none⟩ (.int .i64 0)) w.heap.size (fun _ => True) (.slice none 0 0) ([] : List (S72))) := ⟨by (with_reducible repeat (first | apply Kd.R_alloc | apply Kd.R_drewN | apply Kd.R_drew)); exact Kd.R_mono (Kd.R_far (p := ⟨gb109, 1, none⟩) (Kd.R_far (p := ⟨gb109, 0, none⟩) (Kd.R_types HO_16.out BK109.out (by decide)) (fun _ hk => hk.2) (.int .i64 ((rd_T67 l0 a1_0).f4))) (fun _ hk => hk.2) (.int .i64 0)) (fun _ hk => trivial)⟩
        have n1_ : Aside0 (((wc.setCell ⟨gb109, 0, none⟩ (.int .i64 ((rd_T67 l0 a1_0).f4))).setCell ⟨gb109, 1, none⟩ (.int .i64 0)).heap[gb101]? = some (.cells #[.int .i64 a1_0, .int .i64 a1_1] 57 (0, 0))) := ⟨by (with_reducible repeat (first | refine blk_drewN ?_ _ | refine blk_drew ?_ | refine blk_alloc ?_ _)); refine blk_far ?_ NB101_109.out _; (with_reducible repeat (first | refine blk_drewN ?_ _ | refine blk_drew ?_ | refine blk_alloc ?_ _)); refine blk_far ?_ NB101_109.out _; (with_reducible repeat (first | refine blk_drewN ?_ _ | refine blk_drew ?_ | refine blk_alloc ?_ _)); exact BK101.out⟩
        have n2_ : Aside0 (((wc.setCell ⟨gb109, 0, none⟩ (.int .i64 ((rd_T67 l0 a1_0).f4))).setCell ⟨gb109, 1, none⟩ (.int .i64 0)).heap[gb102]? = some (.cells #[.int .i64 x103000_31, .int .i64 x103001_31] 57 (0, 0))) := ⟨by (with_reducible repeat (first | refine blk_drewN ?_ _ | refine blk_drew ?_ | refine blk_alloc ?_ _)); refine blk_far ?_ NB102_109.out _; (with_reducible repeat (first | refine blk_drewN ?_ _ | refine blk_drew ?_ | refine blk_alloc ?_ _)); refine blk_far ?_ NB102_109.out _; (with_reducible repeat (first | refine blk_drewN ?_ _ | refine blk_drew ?_ | refine blk_alloc ?_ _)); exact BK102.out⟩
        have n3_ : Aside0 (((wc.setCell ⟨gb109, 0, none⟩ (.int .i64 ((rd_T67 l0 a1_0).f4))).setCell ⟨gb109, 1, none⟩ (.int .i64 0)).heap[gb105]? = some (.cells #[.int .i64 ((rd_T67 l0 a1_0).f0), .string ((rd_T67 l0 a1_0).f1), .string ((rd_T67 l0 a1_0).f2), .int .i64 ((rd_T67 l0 a1_0).f3.f0), .int .i64 ((rd_T67 l0 a1_0).f3.f1), .string ((rd_T67 l0 a1_0).f3.f2), .slice A104_6 ((rd_T67 l0 a1_0).f3.f3).length c104_6, .int .i64 ((rd_T67 l0 a1_0).f4)] 67 (0, 0))) := ⟨by (with_reducible repeat (first | refine blk_drewN ?_ _ | refine blk_drew ?_ | refine blk_alloc ?_ _)); refine blk_far ?_ NB105_109.out _; (with_reducible repeat (first | refine blk_drewN ?_ _ | refine blk_drew ?_ | refine blk_alloc ?_ _)); refine blk_far ?_ NB105_109.out _; (with_reducible repeat (first | refine blk_drewN ?_ _ | refine blk_drew ?_ | refine blk_alloc ?_ _)); exact BK105.out⟩
        have n4_ : Aside0 (((wc.setCell ⟨gb109, 0, none⟩ (.int .i64 ((rd_T67 l0 a1_0).f4))).setCell ⟨gb109, 1, none⟩ (.int .i64 0)).heap[gb109]? = some (.cells #[.int .i64 ((rd_T67 l0 a1_0).f4), .int .i64 0] 57 (0, 0))) := qY109
        have n5_ : Aside0 (Below w.heap.size w ((wc.setCell ⟨gb109, 0, none⟩ (.int .i64 ((rd_T67 l0 a1_0).f4))).setCell ⟨gb109, 1, none⟩ (.int .i64 0))) := qB
        generalize ((wc.setCell ⟨gb109, 0, none⟩ (.int .i64 ((rd_T67 l0 a1_0).f4))).setCell ⟨gb109, 1, none⟩ (.int .i64 0)) = w189 at n0_ n1_ n2_ n3_ n4_ n5_ ⊢
        have HO_16 := n0_
        have BK101 := n1_
        have BK102 := n2_
        have BK105 := n3_
        have BK109 := n4_
        have HB := n5_
        clear n0_ n1_ n2_ n3_ n4_ n5_
        replace HO_16 := Aside0.mk (Kd.R_drew HO_16.out)
        replace BK101 := Aside0.mk (blk_drew BK101.out)
        replace BK102 := Aside0.mk (blk_drew BK102.out)
        replace BK105 := Aside0.mk (blk_drew BK105.out)
        replace BK109 := Aside0.mk (blk_drew BK109.out)
        replace HB := Aside0.mk (below_drew1 HB.out)
        refine start_ (n := 11) (S := fun w' => w'.cell? ⟨gb109, 0, none⟩ = some (.int .i64 ((rd_T67 l0 a1_0).f4)) ∧ w'.cell? ⟨gb109, 1, none⟩ = some (.int .i64 0)) (ds := []) #[Z,Z,Z,Z,Z,Z,Z,Z,Z,Z,Z] (by kernel_rfl) rfl rfl ⟨(blk_cell BK109.out 0).trans rfl, (blk_cell BK109.out 1).trans rfl⟩ (fun hHeld => ?_); refine with_tabW malthouseref11_Scan.tab36 malthouseref11_Scan.bits36 (fun HT_ HW_ => ?_)
        generalize w189.drew = w190 at HO_16 BK101 BK102 BK105 BK109 HB hHeld ⊢
        refine qpu 1 (some 128) ?_
        refine qpu 2 (some 129) ?_
        refine qpu 4 (some 131) ?_
        refine qpu 5 (some 132) ?_
        refine qtw2 0 (some 127) hHeld ?_
        refine qtw2 3 (some 130) hHeld ?_
        refine qpu 6 (some 133) ?_
        refine one_ (i := 7) (N := none) #[Y,Y,Y,Y,Y,Y,Y,Y,Z,Z,Z] rfl rfl (one_of HT_.out (by kernel_rfl)) (by decide) (fun K hK => ?_)
        have hs191 : w190.cell? ⟨gb102, 0, none⟩ = some (.int .i64 x103000_31) := (blk_cell BK102.out 0).trans rfl
        have hfs191 := blk_frozen BK102.out 0
        have hns191_0 := NB101_102.out
        have hns191_2 := NB105_102.out
        have hns191_3 := NB109_102.out
        have hms191_0 := NB102_101.out
        have hms191_2 := NB102_105.out
        have hms191_3 := NB102_109.out
        have hs192 : w190.cell? ⟨gb102, 1, none⟩ = some (.int .i64 x103001_31) := (blk_cell BK102.out 1).trans rfl
        have hfs192 := blk_frozen BK102.out 1
        have hns192_0 := NB101_102.out
        have hns192_2 := NB105_102.out
        have hns192_3 := NB109_102.out
        have hms192_0 := NB102_101.out
        have hms192_2 := NB102_105.out
        have hms192_3 := NB102_109.out
        refine skip_ (w1 := ?_) (by rfl) rfl ?_ ?_
        rotate_left
        ·go_simp
         rfl
        refine hK.out _ _ ⟨((cell_far (p := ⟨gb102, _, none⟩) NB109_102.out _).trans (((cell_far (p := ⟨gb102, _, none⟩) NB109_102.out _).trans (hHeld.1)))), ((cell_far (p := ⟨gb102, _, none⟩) NB109_102.out _).trans (((cell_far (p := ⟨gb102, _, none⟩) NB109_102.out _).trans (hHeld.2))))⟩ (fun hHeld => ?_)
        clear hK K
        refine qpu 8 (some 7) ?_
        refine qpu 9 (some 8) ?_
        refine qpu 10 (some 9) ?_
        refine done_ (done_of HT_.out (by kernel_rfl)) ?_
        try go_wp2
        refine bodyPost_ret (results_list (rs := [.cell 6 57, .tmp 7, .tmp 8, .tmp 9]) rfl (by simp) (.cell gb102 57 #[.int .i64 ((rd_T67 l0 a1_0).f4), .int .i64 0] (0, 0) _ rfl qy102 Tryd.underlying57 rfl (by kernel_rfl) (.tmp (.tmp (.tmp .nil))))) rfl ?_
        exact ⟨_, by first | rfl | (simp [errW_none, errW_some] <;> rfl) | (simp [*, errW_none, errW_some] <;> rfl), by (with_reducible repeat (first | apply Kd.R_alloc | apply Kd.R_drewN | apply Kd.R_drew)); exact Kd.R_mono (Kd.R_far (p := ⟨gb102, 1, none⟩) (Kd.R_far (p := ⟨gb102, 0, none⟩) (Kd.R_types HO_16.out BK102.out (by decide)) (fun _ hk => hk.2) (.int .i64 ((rd_T67 l0 a1_0).f4))) (fun _ hk => hk.2) (.int .i64 0)) (fun _ hk => trivial), qb⟩
       rw [if_neg c161] at H
       obtain ⟨c161b0, c161b1⟩ := qd c161
       simp only [Option.some.injEq, Prod.mk.injEq] at H
       obtain ⟨rfl, rfl, rfl, rfl, rfl⟩ := H
       try go_wp2
       replace HO_16 := Aside0.mk (Kd.R_drew HO_16.out)
       replace BK101 := Aside0.mk (blk_drew BK101.out)
       replace BK102 := Aside0.mk (blk_drew BK102.out)
       replace BK105 := Aside0.mk (blk_drew BK105.out)
       replace BK109 := Aside0.mk (blk_drew BK109.out)
       replace HB := Aside0.mk (below_drew1 HB.out)
       refine start_ (n := 11) (S := fun w' => w'.cell? ⟨gb109, 0, none⟩ = some (.int .i64 (wrap64 (a1_0 + 1))) ∧ w'.cell? ⟨gb109, 1, none⟩ = some (.int .i64 0)) (ds := []) #[Z,Z,Z,Z,Z,Z,Z,Z,Z,Z,Z] (by kernel_rfl) rfl rfl ⟨(blk_cell BK109.out 0).trans rfl, (blk_cell BK109.out 1).trans rfl⟩ (fun hHeld => ?_); refine with_tabW malthouseref11_Scan.tab36 malthouseref11_Scan.bits36 (fun HT_ HW_ => ?_)
       generalize wc.drew = w193 at HO_16 BK101 BK102 BK105 BK109 HB hHeld ⊢
       refine qpu 1 (some 128) ?_
       refine qpu 2 (some 129) ?_
       refine qpu 4 (some 131) ?_
       refine qpu 5 (some 132) ?_
       refine qtw2 0 (some 127) hHeld ?_
       refine qtw2 3 (some 130) hHeld ?_
       refine qpu 6 (some 133) ?_
       refine one_ (i := 7) (N := none) #[Y,Y,Y,Y,Y,Y,Y,Y,Z,Z,Z] rfl rfl (one_of HT_.out (by kernel_rfl)) (by decide) (fun K hK => ?_)
       have hs194 : w193.cell? ⟨gb102, 0, none⟩ = some (.int .i64 x103000_31) := (blk_cell BK102.out 0).trans rfl
       have hfs194 := blk_frozen BK102.out 0
       have hns194_0 := NB101_102.out
       have hns194_2 := NB105_102.out
       have hns194_3 := NB109_102.out
       have hms194_0 := NB102_101.out
       have hms194_2 := NB102_105.out
       have hms194_3 := NB102_109.out
       have hs195 : w193.cell? ⟨gb102, 1, none⟩ = some (.int .i64 x103001_31) := (blk_cell BK102.out 1).trans rfl
       have hfs195 := blk_frozen BK102.out 1
       have hns195_0 := NB101_102.out
       have hns195_2 := NB105_102.out
       have hns195_3 := NB109_102.out
       have hms195_0 := NB102_101.out
       have hms195_2 := NB102_105.out
       have hms195_3 := NB102_109.out
       refine skip_ (w1 := ?_) (by rfl) rfl ?_ ?_
       rotate_left
       ·go_simp
        rfl
       refine hK.out _ _ ⟨((cell_far (p := ⟨gb102, _, none⟩) NB109_102.out _).trans (((cell_far (p := ⟨gb102, _, none⟩) NB109_102.out _).trans (hHeld.1)))), ((cell_far (p := ⟨gb102, _, none⟩) NB109_102.out _).trans (((cell_far (p := ⟨gb102, _, none⟩) NB109_102.out _).trans (hHeld.2))))⟩ (fun hHeld => ?_)
       clear hK K
       refine qpu 8 (some 7) ?_
       refine qpu 9 (some 8) ?_
       refine qpu 10 (some 9) ?_
       refine done_ (done_of HT_.out (by kernel_rfl)) ?_
       try go_wp2
       refine bodyPost_ret (results_list (rs := [.cell 6 57, .tmp 7, .tmp 8, .tmp 9]) rfl (by simp) (.cell gb102 57 #[.int .i64 (wrap64 (a1_0 + 1)), .int .i64 0] (0, 0) _ rfl qy102 Tryd.underlying57 rfl (by kernel_rfl) (.tmp (.tmp (.tmp .nil))))) rfl ?_
       exact ⟨_, by first | rfl | (simp [errW_none, errW_some] <;> rfl) | (simp [*, errW_none, errW_some] <;> rfl), by (with_reducible repeat (first | apply Kd.R_alloc | apply Kd.R_drewN | apply Kd.R_drew)); exact Kd.R_mono (Kd.R_far (p := ⟨gb102, 1, none⟩) (Kd.R_far (p := ⟨gb102, 0, none⟩) (Kd.R_types HO_16.out BK102.out (by decide)) (fun _ hk => hk.2) (.int .i64 (wrap64 (a1_0 + 1)))) (fun _ hk => hk.2) (.int .i64 0)) (fun _ hk => trivial), qb⟩
   rw [if_neg c15] at H
   exact absurd H (by simp)
  rw [if_neg c14] at H
  exact absurd H (by simp)
 replace c5 := Bool.eq_false_iff.mpr c5
 subst c5
 rw [if_neg qf] at H
 simp only [Option.some.injEq, Prod.mk.injEq] at H
 obtain ⟨rfl, rfl, rfl, rfl, rfl⟩ := H
 go_enter Tryd.func39, Tryd.ntmps39
 go_wp2_with (first | ((with_reducible refine gate_dst (N := 4) rfl ?_); (try (refine gate_guard (by rfl) ?_; dsimp only)); refine box_event ?hg (N := 4) ?hd (cs := #[.int .i64 a1_0, .int .i64 a1_1]) (t := 57) ?hr ?_; (case hd => rfl); (case hg => rfl); (case hr => first | (go_simp; done) | (go_simp; rfl)); intro gb101 hg w196 hbox hb; have n0_ := qs hb; have n1_ := Aside0.mk (hbox); have n2_ := Aside0.mk ((by rw [hg]; exact (below_size qb) : w.heap.size ≤ gb101)); have n3_ := Aside0.mk ((by rw [hg]; exact (below_size qb) : w.heap.size ≤ gb101)); clear HB; have HB := n0_; have BK101 := n1_; have GW101 := n2_; have GE101 := n3_; clear n0_ n1_ n2_ n3_; clear hb hbox hg) | ((with_reducible refine gate_dst (N := 6) rfl ?_); (try (refine gate_guard (by rfl) ?_; dsimp only)); refine box_event ?hg (N := 6) ?hd (cs := #[.int .i64 0, .int .i64 0]) (t := 57) ?hr ?_; (case hd => rfl); (case hg => rfl); (case hr => first | (go_simp; done) | (go_simp; rfl)); intro gb102 hg w197 hbox hb; have n0_ := qn101 (g := gb101) hb; have n1_ := qs hb; have n2_ := Aside0.mk (hbox); have n3_ := Aside0.mk ((by rw [hg]; exact (below_size qb) : w.heap.size ≤ gb102)); have n4_ := Aside0.mk ((by rw [hg]; exact (below_size qb) : w.heap.size ≤ gb102)); have n5_ := Aside0.mk ((by rw [hg]; exact Nat.ne_of_lt (blk_lt (g := gb101) (o := .cells #[.int .i64 a1_0, .int .i64 a1_1] 57 (0, 0)) (by (with_reducible repeat (first | refine blk_drewN ?_ _ | refine blk_drew ?_ | refine blk_alloc ?_ _)); exact BK101.out)) : gb101 ≠ gb102)); have n6_ := Aside0.mk ((by rw [hg]; exact Nat.ne_of_gt (blk_lt (g := gb101) (o := .cells #[.int .i64 a1_0, .int .i64 a1_1] 57 (0, 0)) (by (with_reducible repeat (first | refine blk_drewN ?_ _ | refine blk_drew ?_ | refine blk_alloc ?_ _)); exact BK101.out)) : gb102 ≠ gb101)); clear BK101; clear HB; have BK101 := n0_; have HB := n1_; have BK102 := n2_; have GW102 := n3_; have GE102 := n4_; have NB101_102 := n5_; have NB102_101 := n6_; clear n0_ n1_ n2_ n3_ n4_ n5_ n6_; clear hb hbox hg; have hnb198 := NB101_102.out; have hnc198 := NB102_101.out; obtain ⟨_, _, _, _⟩ := q2 BK101.out) | ((with_reducible refine gate_callee (f := 42) rfl ?_); refine goesL_ (some 20) rfl rfl Tryd.func42 (by kernel_rfl) rfl #[.slice A0 l0.length c0, .agg #[.int .i64 a1_0, .int .i64 a1_1]] rfl qm ?_; (with_reducible refine (malthouseref11_Right.calls k _ _ l0 a1_0 a1_1 false _ ?side1 ?side2 A4.out).mono ?_); (case side1 => exact qC HR0.out); (case side2 => exact HC0.out); rintro e w200 ⟨rfl, hb⟩; refine ⟨_, rfl, ?_⟩; have n0_ := qn101 (g := gb101) hb; have n1_ := qn102 (g := gb102) hb; have n2_ := qs hb; clear BK101; clear BK102; clear HB; have BK101 := n0_; have BK102 := n1_; have HB := n2_; clear n0_ n1_ n2_; (try clear hb); obtain ⟨_, _, _, _⟩ := q2 BK102.out))
 refine bodyPost_ret (results_list (rs := [.cell 6 57, .tmp 7, .tmp 8, .tmp 9]) rfl (by simp) (.cell gb102 57 #[.int .i64 0, .int .i64 0] (0, 0) _ rfl qy102 Tryd.underlying57 rfl (by kernel_rfl) (.tmp (.tmp (.tmp .nil))))) rfl ?_
 exact ⟨_, by first | rfl | (simp [errW_none, errW_some] <;> rfl) | (simp [*, errW_none, errW_some] <;> rfl), by first | exact Kd.R_nil _ _ _ _ _ | exact Kd.N_nil _ _ _ _ _ | exact Kd.V_nil _ _ _ _ _ | exact Kd.Q_nil _ _ _ _ _ | exact Kd.S_nil _ _ _ _ _, qb⟩
end Go.Proofs.YtiaccdaeomaogaaDoor.F
