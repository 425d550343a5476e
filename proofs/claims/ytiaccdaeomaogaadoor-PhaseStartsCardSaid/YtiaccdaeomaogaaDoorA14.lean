/- Texts of one claim, slimmed and merged by slim.py. -/
import Derived.Test.YtiaccdaeomaogaaDoorA4
import Derived.Test.YtiaccdaeomaogaaDoorA6
import Derived.Test.YtiaccdaeomaogaaDoorA11
import Derived.Test.YtiaccdaeomaogaaDoorA13
namespace Go.Proofs.YtiaccdaeomaogaaDoor.F
open Go.RowKit Go.Proofs.YtiaccdaeomaogaaDoorW.PrintWords Go.Proofs.YtiaccdaeomaogaaDoorW.PrintLast Go.Proofs.YtiaccdaeomaogaaDoorW.PrintMore
attribute [local go_sem] max2_int min2_int max_two min_two max_three min_three max_four min_four   -- for this text's walks alone
set_option linter.unusedVariables false
set_option linter.unusedSimpArgs false
mutual
def prog_step.j0 : Nat → List (S67) → List (S69) → Int → Bool → Int → Int → Int → ByteArray → ByteArray → Int → Int → ByteArray → List (S34) → Int → Option (Int × Int × Int × ByteArray × ByteArray × Int × Int × Int)
  | 0, _, _, _, _, _, _, _, _, _, _, _, _, _, _ => none
  | k + 1, x0, x2, x14, x37, x102000, x102001, x104000, x104001, x104002, x104003, x104004, x104005, x104006, x104007 => if x37 = true then ((expr_Eval.f k x104003 x104004 x104005 x104006 x2).bind fun bt109 => (if bt109.2 = 0 then (prog_step.j1 k x0 bt109.1 x102000 x102001 x104000 x104001 x104002 x104003 x104004 x104005 x104006 x104007) else (some (0, 0, 0, (⟨#[]⟩ : ByteArray), (⟨#[]⟩ : ByteArray), 0, 0, bt109.2)))) else (prog_step.j1 k x0 x14 x102000 x102001 x104000 x104001 x104002 x104003 x104004 x104005 x104006 x104007)
def prog_step.j1 : Nat → List (S67) → Int → Int → Int → Int → ByteArray → ByteArray → Int → Int → ByteArray → List (S34) → Int → Option (Int × Int × Int × ByteArray × ByteArray × Int × Int × Int)
  | 0, _, _, _, _, _, _, _, _, _, _, _, _ => none
  | k + 1, x0, x14, x102000, x102001, x104000, x104001, x104002, x104003, x104004, x104005, x104006, x104007 => if x104000 = 0 then (prog_step.j2 k x0 x14 x104000 (x104000 == 0) x102000 x102001 x104000 x104001 x104002 x104003 x104004 x104005 x104006 x104007 (wrap64 (x102000 + 1)) 0) else (if x104000 = 3 then (prog_step.j2 k x0 x14 x104000 (x104000 == 3) x102000 x102001 x104000 x104001 x104002 x104003 x104004 x104005 x104006 x104007 (wrap64 (x102000 + 1)) 0) else (if x104000 = 4 then (prog_step.j2 k x0 x14 x104000 (x104000 == 4) x102000 x102001 x104000 x104001 x104002 x104003 x104004 x104005 x104006 x104007 (wrap64 (x102000 + 1)) 0) else (prog_step.j2 k x0 x14 x104000 (x104000 == 5) x102000 x102001 x104000 x104001 x104002 x104003 x104004 x104005 x104006 x104007 (wrap64 (x102000 + 1)) 0)))
def prog_step.j2 : Nat → List (S67) → Int → Int → Bool → Int → Int → Int → ByteArray → ByteArray → Int → Int → ByteArray → List (S34) → Int → Int → Int → Option (Int × Int × Int × ByteArray × ByteArray × Int × Int × Int)
  | 0, _, _, _, _, _, _, _, _, _, _, _, _, _, _, _, _ => none
  | k + 1, x0, x14, x54, x55, x102000, x102001, x104000, x104001, x104002, x104003, x104004, x104005, x104006, x104007, x112000, x112001 => if x55 = true then (some (x112000, x112001, x104000, x104001, x104002, x14, 2, 0)) else (if x54 = 7 then (some (x112000, x112001, x104000, x104001, (⟨#[]⟩ : ByteArray), 0, 2, 0)) else (if x54 = 1 then (if x14 = 0 then (some (x102000, x102001, 0, (⟨#[]⟩ : ByteArray), (⟨#[]⟩ : ByteArray), 0, 1, 0)) else (some (x112000, x112001, 0, (⟨#[]⟩ : ByteArray), (⟨#[]⟩ : ByteArray), 0, 1, 0))) else (if x54 = 2 then ((prog_delayed.f x102000 x102001 x14 x112000 x112001).bind fun bt112 => (some (bt112.1, bt112.2, 0, (⟨#[]⟩ : ByteArray), (⟨#[]⟩ : ByteArray), 0, 1, 0))) else (if x54 = 6 then (if x104007 < 0 then (some (0, 0, 0, (⟨#[]⟩ : ByteArray), (⟨#[]⟩ : ByteArray), 0, 0, 1)) else (if x104007 > (x0.length : Int) then (some (0, 0, 0, (⟨#[]⟩ : ByteArray), (⟨#[]⟩ : ByteArray), 0, 0, 1)) else (some (x104007, 0, 0, (⟨#[]⟩ : ByteArray), (⟨#[]⟩ : ByteArray), 0, 1, 0)))) else (some (x112000, x112001, 0, (⟨#[]⟩ : ByteArray), (⟨#[]⟩ : ByteArray), 0, 1, 0))))))
end
def prog_step.f (k : Nat) (l0 : List (S67)) (a1_0 : Int) (a1_1 : Int) (l2 : List (S69)) : Option (Int × Int × Int × ByteArray × ByteArray × Int × Int × Int) := if 0 ≤ a1_0 then (if a1_0 < (l0.length : Int) then ((prog_uses.f k ((rd_T67 l0 a1_0).f0)).bind fun bt104 => (if bt104.2.2.1 = true then (prog_step.j0 k l0 l2 0 (a1_1 == 0) a1_0 a1_1 ((rd_T67 l0 a1_0).f0) ((rd_T67 l0 a1_0).f1) ((rd_T67 l0 a1_0).f2) ((rd_T67 l0 a1_0).f3.f0) ((rd_T67 l0 a1_0).f3.f1) ((rd_T67 l0 a1_0).f3.f2) ((rd_T67 l0 a1_0).f3.f3) ((rd_T67 l0 a1_0).f4)) else (prog_step.j0 k l0 l2 0 false a1_0 a1_1 ((rd_T67 l0 a1_0).f0) ((rd_T67 l0 a1_0).f1) ((rd_T67 l0 a1_0).f2) ((rd_T67 l0 a1_0).f3.f0) ((rd_T67 l0 a1_0).f3.f1) ((rd_T67 l0 a1_0).f3.f2) ((rd_T67 l0 a1_0).f3.f3) ((rd_T67 l0 a1_0).f4)))) else (none)) else (none)
theorem prog_step.mono_l : ∀ k, (∀ y0 y1 y2 y3 y4 y5 y6 y7 y8 y9 y10 y11 y12 y13, LeO (prog_step.j0 k y0 y1 y2 y3 y4 y5 y6 y7 y8 y9 y10 y11 y12 y13) (prog_step.j0 (k + 1) y0 y1 y2 y3 y4 y5 y6 y7 y8 y9 y10 y11 y12 y13)) ∧ (∀ y0 y1 y2 y3 y4 y5 y6 y7 y8 y9 y10 y11, LeO (prog_step.j1 k y0 y1 y2 y3 y4 y5 y6 y7 y8 y9 y10 y11) (prog_step.j1 (k + 1) y0 y1 y2 y3 y4 y5 y6 y7 y8 y9 y10 y11)) ∧ (∀ y0 y1 y2 y3 y4 y5 y6 y7 y8 y9 y10 y11 y12 y13 y14 y15, LeO (prog_step.j2 k y0 y1 y2 y3 y4 y5 y6 y7 y8 y9 y10 y11 y12 y13 y14 y15) (prog_step.j2 (k + 1) y0 y1 y2 y3 y4 y5 y6 y7 y8 y9 y10 y11 y12 y13 y14 y15))
  | 0 => ⟨fun _ _ _ _ _ _ _ _ _ _ _ _ _ _ r h => by simp [prog_step.j0] at h, fun _ _ _ _ _ _ _ _ _ _ _ _ r h => by simp [prog_step.j1] at h, fun _ _ _ _ _ _ _ _ _ _ _ _ _ _ _ _ r h => by simp [prog_step.j2] at h⟩
  | k + 1 => by
    obtain ⟨ih0, ih1, ih2⟩ := prog_step.mono_l k
    refine ⟨?_, ?_, ?_⟩
    · intro y0 y1 y2 y3 y4 y5 y6 y7 y8 y9 y10 y11 y12 y13
      unfold prog_step.j0
      repeat' first
      | (with_reducible exact ih0 _ _ _ _ _ _ _ _ _ _ _ _ _ _)
      | (with_reducible exact ih1 _ _ _ _ _ _ _ _ _ _ _ _)
      | (with_reducible exact ih2 _ _ _ _ _ _ _ _ _ _ _ _ _ _ _ _)
      | (with_reducible exact expr_Eval.mono _ _ _ _ _ _)
      | (with_reducible exact prog_uses.mono _ _)
      | (with_reducible exact LeO.refl _)
      | (with_reducible exact LeO.none _)
      | (with_reducible refine LeO.ite ?_ ?_)
      | (with_reducible refine LeO.bind ?_ (fun _ => ?_))
      | exact ih0 _ _ _ _ _ _ _ _ _ _ _ _ _ _
      | exact ih1 _ _ _ _ _ _ _ _ _ _ _ _
      | exact ih2 _ _ _ _ _ _ _ _ _ _ _ _ _ _ _ _
      | exact expr_Eval.mono _ _ _ _ _ _
      | exact prog_uses.mono _ _
      | exact LeO.none _
      | refine LeO.ite ?_ ?_
      | refine LeO.bind ?_ (fun _ => ?_)
    · intro y0 y1 y2 y3 y4 y5 y6 y7 y8 y9 y10 y11
      unfold prog_step.j1
      repeat' first
      | (with_reducible exact ih0 _ _ _ _ _ _ _ _ _ _ _ _ _ _)
      | (with_reducible exact ih1 _ _ _ _ _ _ _ _ _ _ _ _)
      | (with_reducible exact ih2 _ _ _ _ _ _ _ _ _ _ _ _ _ _ _ _)
      | (with_reducible exact expr_Eval.mono _ _ _ _ _ _)
      | (with_reducible exact prog_uses.mono _ _)
      | (with_reducible exact LeO.refl _)
      | (with_reducible exact LeO.none _)
      | (with_reducible refine LeO.ite ?_ ?_)
      | (with_reducible refine LeO.bind ?_ (fun _ => ?_))
      | exact ih0 _ _ _ _ _ _ _ _ _ _ _ _ _ _
      | exact ih1 _ _ _ _ _ _ _ _ _ _ _ _
      | exact ih2 _ _ _ _ _ _ _ _ _ _ _ _ _ _ _ _
      | exact expr_Eval.mono _ _ _ _ _ _
      | exact prog_uses.mono _ _
      | exact LeO.none _
      | refine LeO.ite ?_ ?_
      | refine LeO.bind ?_ (fun _ => ?_)
    intro y0 y1 y2 y3 y4 y5 y6 y7 y8 y9 y10 y11 y12 y13 y14 y15
    unfold prog_step.j2
    repeat' first
    | (with_reducible exact ih0 _ _ _ _ _ _ _ _ _ _ _ _ _ _)
    | (with_reducible exact ih1 _ _ _ _ _ _ _ _ _ _ _ _)
    | (with_reducible exact ih2 _ _ _ _ _ _ _ _ _ _ _ _ _ _ _ _)
    | (with_reducible exact expr_Eval.mono _ _ _ _ _ _)
    | (with_reducible exact prog_uses.mono _ _)
    | (with_reducible exact LeO.refl _)
    | (with_reducible exact LeO.none _)
    | (with_reducible refine LeO.ite ?_ ?_)
    | (with_reducible refine LeO.bind ?_ (fun _ => ?_))
    | exact ih0 _ _ _ _ _ _ _ _ _ _ _ _ _ _
    | exact ih1 _ _ _ _ _ _ _ _ _ _ _ _
    | exact ih2 _ _ _ _ _ _ _ _ _ _ _ _ _ _ _ _
    | exact expr_Eval.mono _ _ _ _ _ _
    | exact prog_uses.mono _ _
    | exact LeO.none _
    | refine LeO.ite ?_ ?_
    | refine LeO.bind ?_ (fun _ => ?_)
theorem prog_step.mono : ∀ a0 a1 a2 a3 k, LeO (prog_step.f k a0 a1 a2 a3) (prog_step.f (k + 1) a0 a1 a2 a3) := by
  intro a0 a1 a2 a3 k
  obtain ⟨ih0, ih1, ih2⟩ := prog_step.mono_l k
  unfold prog_step.f
  repeat' first
      | (with_reducible exact ih0 _ _ _ _ _ _ _ _ _ _ _ _ _ _)
      | (with_reducible exact ih1 _ _ _ _ _ _ _ _ _ _ _ _)
      | (with_reducible exact ih2 _ _ _ _ _ _ _ _ _ _ _ _ _ _ _ _)
      | (with_reducible exact expr_Eval.mono _ _ _ _ _ _)
      | (with_reducible exact prog_uses.mono _ _)
      | (with_reducible exact LeO.refl _)
      | (with_reducible exact LeO.none _)
      | (with_reducible refine LeO.ite ?_ ?_)
      | (with_reducible refine LeO.bind ?_ (fun _ => ?_))
      | exact ih0 _ _ _ _ _ _ _ _ _ _ _ _ _ _
      | exact ih1 _ _ _ _ _ _ _ _ _ _ _ _
      | exact ih2 _ _ _ _ _ _ _ _ _ _ _ _ _ _ _ _
      | exact expr_Eval.mono _ _ _ _ _ _
      | exact prog_uses.mono _ _
      | exact LeO.none _
      | refine LeO.ite ?_ ?_
      | refine LeO.bind ?_ (fun _ => ?_)
set_option maxHeartbeats 8000000 in
set_option maxRecDepth 100000 in
def outW (a b c : Int) (d e : ByteArray) (f m : Int) : Value := if m = 1 then .iface 114 (.agg #[.int .i64 a, .int .i64 b]) else if m = 2 then .iface 116 (.agg #[.int .i64 a, .int .i64 b, .int .i64 c, .string d, .string e, .int .i64 f]) else .nilIface
set_option maxHeartbeats 8000000 in
set_option maxRecDepth 100000 in
theorem prog_step.calls (k : Nat) (A0 : Option Addr) (c0 : Nat) (l0 : List (S67)) (a1_0 : Int) (a1_1 : Int) (A2 : Option Addr) (c2 : Nat) (l2 : List (S69)) (r1 : Int) (r2 : Int) (r3 : Int) (r4 : ByteArray) (r5 : ByteArray) (r6 : Int) (r7 : Int) (r8 : Int) (w : World) (hr0 : Kd.C k67 w A0 l0.length l0) (hc0 : l0.length ≤ c0) (hr2 : Kd.C k69 w A2 l2.length l2) (hc2 : l2.length ≤ c2) (h : prog_step.f k l0 a1_0 a1_1 l2 = some (r1, r2, r3, r4, r5, r6, r7, r8)) (hT : UT w) :
  Calls Tryd.prog 70 #[.slice A0 l0.length c0, .agg #[.int .i64 a1_0, .int .i64 a1_1], .slice A2 l2.length c2] w fun e w' => e = .returned (.tuple #[outW r1 r2 r3 r4 r5 r6 r7, .int .i64 r8]) ∧ Below w.heap.size w w' := by
 have HT0 := Aside0.mk hT
 clear hT
 have hu57 := Tryd.underlying57
 have hu114 := Tryd.underlying114
 have hu116 := Tryd.underlying116
 have hu67 := Tryd.underlying67
 have hu34 := Tryd.underlying34
 have hu114 := Tryd.underlying114
 have hu72 := Tryd.underlying72
 have hu116 := Tryd.underlying116
 have HR0 := Aside0.mk hr0
 have HC0 := Aside0.mk hc0
 clear hr0 hc0
 have HR2 := Aside0.mk hr2
 have HC2 := Aside0.mk hc2
 clear hr2 hc2
 have HB := Aside0.mk (Below.refl w.heap.size w)
 have H : (if 0 ≤ a1_0 then (if a1_0 < (l0.length : Int) then ((prog_uses.f k ((rd_T67 l0 a1_0).f0)).bind fun bt104 => (if bt104.2.2.1 = true then (prog_step.j0 k l0 l2 0 (a1_1 == 0) a1_0 a1_1 ((rd_T67 l0 a1_0).f0) ((rd_T67 l0 a1_0).f1) ((rd_T67 l0 a1_0).f2) ((rd_T67 l0 a1_0).f3.f0) ((rd_T67 l0 a1_0).f3.f1) ((rd_T67 l0 a1_0).f3.f2) ((rd_T67 l0 a1_0).f3.f3) ((rd_T67 l0 a1_0).f4)) else (prog_step.j0 k l0 l2 0 false a1_0 a1_1 ((rd_T67 l0 a1_0).f0) ((rd_T67 l0 a1_0).f1) ((rd_T67 l0 a1_0).f2) ((rd_T67 l0 a1_0).f3.f0) ((rd_T67 l0 a1_0).f3.f1) ((rd_T67 l0 a1_0).f3.f2) ((rd_T67 l0 a1_0).f3.f3) ((rd_T67 l0 a1_0).f4)))) else (none)) else (none)) = some (r1, r2, r3, r4, r5, r6, r7, r8) := h
 clear h
 by_cases c4 : 0 ≤ a1_0
 ·rw [if_pos c4] at H
  have c4b0 : decide (0 ≤ a1_0) = true := decide_eq_true c4
  clear c4
  by_cases c5 : a1_0 < (l0.length : Int)
  ·rw [if_pos c5] at H
   have c5b0 : decide (a1_0 < (l0.length : Int)) = true := decide_eq_true c5
   clear c5
   replace H := qi H
   obtain ⟨⟨t104, t105, t106, t107, t108⟩, A6, H⟩ := H
   replace H : (if t106 = true then (prog_step.j0 k l0 l2 0 (a1_1 == 0) a1_0 a1_1 ((rd_T67 l0 a1_0).f0) ((rd_T67 l0 a1_0).f1) ((rd_T67 l0 a1_0).f2) ((rd_T67 l0 a1_0).f3.f0) ((rd_T67 l0 a1_0).f3.f1) ((rd_T67 l0 a1_0).f3.f2) ((rd_T67 l0 a1_0).f3.f3) ((rd_T67 l0 a1_0).f4)) else (prog_step.j0 k l0 l2 0 false a1_0 a1_1 ((rd_T67 l0 a1_0).f0) ((rd_T67 l0 a1_0).f1) ((rd_T67 l0 a1_0).f2) ((rd_T67 l0 a1_0).f3.f0) ((rd_T67 l0 a1_0).f3.f1) ((rd_T67 l0 a1_0).f3.f2) ((rd_T67 l0 a1_0).f3.f3) ((rd_T67 l0 a1_0).f4))) = some (r1, r2, r3, r4, r5, r6, r7, r8) := H
   have HC7 := Aside0.mk H
   clear H
   go_enter Tryd.func70, Tryd.ntmps70
   go_upto_region 4 with (first | ((with_reducible refine gate_dst (N := 4) rfl ?_); (try (refine gate_guard (by rfl) ?_; dsimp only)); refine box_event ?hg (N := 4) ?hd (cs := #[.int .i64 a1_0, .int .i64 a1_1]) (t := 57) ?hr ?_; (case hd => rfl); (case hg => rfl); (case hr => first | (go_simp; done) | (go_simp; rfl)); intro gb101 hg w8 hbox hb; have n0_ := qs hb; have n1_ := Aside0.mk (hbox); have n2_ := Aside0.mk ((by rw [hg]; exact (below_size qb) : w.heap.size ≤ gb101)); have n3_ := Aside0.mk ((by rw [hg]; exact (below_size qb) : w.heap.size ≤ gb101)); clear HB; have HB := n0_; have BK101 := n1_; have GW101 := n2_; have GE101 := n3_; clear n0_ n1_ n2_ n3_; clear hb hbox hg; obtain ⟨_, _, _, _⟩ := q2 BK101.out; have p102 : 0 ≤ (a1_0 : Int) := qa; have q102 : a1_0 < (l0.length : Int) := qa; obtain ⟨ad102, A102_6, c102_6, e102, hx102_0, hx102_1, hx102_2, hx102_3, hx102_4, hx102_5, hx102_6, hx102_7, hl102_6, hi102_6⟩ := at_T67 HR0.out a1_0 p102 q102; cases e102; replace hx102_0 := qc HB.out hx102_0; replace hx102_1 := qc HB.out hx102_1; replace hx102_2 := qc HB.out hx102_2; replace hx102_3 := qc HB.out hx102_3; replace hx102_4 := qc HB.out hx102_4; replace hx102_5 := qc HB.out hx102_5; replace hx102_6 := qc HB.out hx102_6; replace hx102_7 := qc HB.out hx102_7; have HR102_6 := Aside0.mk hi102_6; have HC102_6 := Aside0.mk hl102_6; clear hi102_6 hl102_6; replace p102 := eq_true p102; replace q102 := eq_true q102) | ((with_reducible refine gate_dst (N := 8) rfl ?_); (try (refine gate_guard (by rfl) ?_; dsimp only)); refine box_event ?hg (N := 8) ?hd (cs := #[.int .i64 0, .string (⟨#[]⟩ : ByteArray), .string (⟨#[]⟩ : ByteArray), .int .i64 0, .int .i64 0, .string (⟨#[]⟩ : ByteArray), .slice none 0 0, .int .i64 0]) (t := 67) ?hr ?_; (case hd => rfl); (case hg => rfl); (case hr => first | (go_simp; done) | (go_simp; rfl)); intro gb103 hg w10 hbox hb; have n0_ := qn101 (g := gb101) hb; have n1_ := qs hb; have n2_ := Aside0.mk (hbox); have n3_ := Aside0.mk ((by rw [hg]; exact (below_size qb) : w.heap.size ≤ gb103)); have n4_ := Aside0.mk ((by rw [hg]; exact (below_size qb) : w.heap.size ≤ gb103)); have n5_ := Aside0.mk ((by rw [hg]; exact Nat.ne_of_lt (blk_lt (g := gb101) (o := .cells #[.int .i64 a1_0, .int .i64 a1_1] 57 (0, 0)) (by (with_reducible repeat (first | refine blk_drewN ?_ _ | refine blk_drew ?_ | refine blk_alloc ?_ _)); exact BK101.out)) : gb101 ≠ gb103)); have n6_ := Aside0.mk ((by rw [hg]; exact Nat.ne_of_gt (blk_lt (g := gb101) (o := .cells #[.int .i64 a1_0, .int .i64 a1_1] 57 (0, 0)) (by (with_reducible repeat (first | refine blk_drewN ?_ _ | refine blk_drew ?_ | refine blk_alloc ?_ _)); exact BK101.out)) : gb103 ≠ gb101)); clear BK101; clear HB; have BK101 := n0_; have HB := n1_; have BK103 := n2_; have GW103 := n3_; have GE103 := n4_; have NB101_103 := n5_; have NB103_101 := n6_; clear n0_ n1_ n2_ n3_ n4_ n5_ n6_; clear hb hbox hg; have hnb11 := NB103_101.out; have hnc11 := NB101_103.out; obtain ⟨_, _, _, _, _, _, _, _, _, _, _, _, _, _, _, _⟩ := q8 BK103.out) | ((with_reducible refine gate_callee (f := 101) rfl ?_); refine goesL_ (some 26) rfl rfl Tryd.func101 (by kernel_rfl) rfl #[.int .i64 ((rd_T67 l0 a1_0).f0)] rfl qm ?_; (with_reducible refine (prog_uses.calls k ((rd_T67 l0 a1_0).f0) t104 t105 t106 t107 t108 _ A6.out).mono ?_); rintro e w' ⟨rfl, ⟨nd, rfl⟩⟩; refine ⟨_, rfl, ?_⟩))
   (try simp only [Act.put, List.setIfInBounds_toArray, List.set_cons_zero, List.set_cons_succ])
   go_cut [37] (fun v37 wc => ∃ (kq : Nat) (x37_6 : Bool), v37 = .bool x37_6 ∧ Aside0 (prog_step.j0 kq l0 l2 0 x37_6 a1_0 a1_1 ((rd_T67 l0 a1_0).f0) ((rd_T67 l0 a1_0).f1) ((rd_T67 l0 a1_0).f2) ((rd_T67 l0 a1_0).f3.f0) ((rd_T67 l0 a1_0).f3.f1) ((rd_T67 l0 a1_0).f3.f2) ((rd_T67 l0 a1_0).f3.f3) ((rd_T67 l0 a1_0).f4) = some (r1, r2, r3, r4, r5, r6, r7, r8)) ∧ Aside0 (kq ≤ k) ∧ Aside0 (wc.heap[gb101]? = some (.cells #[.int .i64 a1_0, .int .i64 a1_1] 57 (0, 0))) ∧ Aside0 (wc.heap[gb103]? = some (.cells #[.int .i64 ((rd_T67 l0 a1_0).f0), .string ((rd_T67 l0 a1_0).f1), .string ((rd_T67 l0 a1_0).f2), .int .i64 ((rd_T67 l0 a1_0).f3.f0), .int .i64 ((rd_T67 l0 a1_0).f3.f1), .string ((rd_T67 l0 a1_0).f3.f2), (.slice A102_6 ((rd_T67 l0 a1_0).f3.f3).length c102_6), .int .i64 ((rd_T67 l0 a1_0).f4)] 67 (0, 0))) ∧ Aside0 (Below w.heap.size w wc))
   case first =>
    have H := HC7.out
    clear HC7
    by_cases c13 : t106 = true
    ·subst c13
     rw [if_pos rfl] at H
     have H' := Aside0.mk H
     clear H
     have hnb14 := NB101_103.out
     have hnc14 := NB103_101.out
     obtain ⟨_, _, _, _⟩ := q2 BK101.out
     go_wp2
     go_meet
     case rel => exact ⟨_, ((a1_1 == 0)), qv, H', ql, ⟨by (with_reducible repeat (first | refine blk_drewN ?_ _ | refine blk_drew ?_ | refine blk_alloc ?_ _)); refine blk_far ?_ NB101_103.out _; (with_reducible repeat (first | refine blk_drewN ?_ _ | refine blk_drew ?_ | refine blk_alloc ?_ _)); refine blk_far ?_ NB101_103.out _; (with_reducible repeat (first | refine blk_drewN ?_ _ | refine blk_drew ?_ | refine blk_alloc ?_ _)); refine blk_far ?_ NB101_103.out _; (with_reducible repeat (first | refine blk_drewN ?_ _ | refine blk_drew ?_ | refine blk_alloc ?_ _)); refine blk_far ?_ NB101_103.out _; (with_reducible repeat (first | refine blk_drewN ?_ _ | refine blk_drew ?_ | refine blk_alloc ?_ _)); refine blk_far ?_ NB101_103.out _; (with_reducible repeat (first | refine blk_drewN ?_ _ | refine blk_drew ?_ | refine blk_alloc ?_ _)); refine blk_far ?_ NB101_103.out _; (with_reducible repeat (first | refine blk_drewN ?_ _ | refine blk_drew ?_ | refine blk_alloc ?_ _)); refine blk_far ?_ NB101_103.out _; (with_reducible repeat (first | refine blk_drewN ?_ _ | refine blk_drew ?_ | refine blk_alloc ?_ _)); refine blk_far ?_ NB101_103.out _; (with_reducible repeat (first | refine blk_drewN ?_ _ | refine blk_drew ?_ | refine blk_alloc ?_ _)); exact BK101.out⟩, qY103, qB⟩
    replace c13 := Bool.eq_false_iff.mpr c13
    subst c13
    rw [if_neg qf] at H
    have H' := Aside0.mk H
    clear H
    go_wp2
    go_meet
    case rel => exact ⟨_, (false), qv, H', ql, ⟨by (with_reducible repeat (first | refine blk_drewN ?_ _ | refine blk_drew ?_ | refine blk_alloc ?_ _)); refine blk_far ?_ NB101_103.out _; (with_reducible repeat (first | refine blk_drewN ?_ _ | refine blk_drew ?_ | refine blk_alloc ?_ _)); refine blk_far ?_ NB101_103.out _; (with_reducible repeat (first | refine blk_drewN ?_ _ | refine blk_drew ?_ | refine blk_alloc ?_ _)); refine blk_far ?_ NB101_103.out _; (with_reducible repeat (first | refine blk_drewN ?_ _ | refine blk_drew ?_ | refine blk_alloc ?_ _)); refine blk_far ?_ NB101_103.out _; (with_reducible repeat (first | refine blk_drewN ?_ _ | refine blk_drew ?_ | refine blk_alloc ?_ _)); refine blk_far ?_ NB101_103.out _; (with_reducible repeat (first | refine blk_drewN ?_ _ | refine blk_drew ?_ | refine blk_alloc ?_ _)); refine blk_far ?_ NB101_103.out _; (with_reducible repeat (first | refine blk_drewN ?_ _ | refine blk_drew ?_ | refine blk_alloc ?_ _)); refine blk_far ?_ NB101_103.out _; (with_reducible repeat (first | refine blk_drewN ?_ _ | refine blk_drew ?_ | refine blk_alloc ?_ _)); refine blk_far ?_ NB101_103.out _; (with_reducible repeat (first | refine blk_drewN ?_ _ | refine blk_drew ?_ | refine blk_alloc ?_ _)); exact BK101.out⟩, qY103, qB⟩
   clear HC7
   obtain ⟨kq, x37_6, rfl, HA, HJ6, BK101, BK103, HB⟩ := hcut
   cases kq with
   | zero => exact absurd HA.out (by simp [prog_step.j0])
   | succ kj6 =>
    have H := HA.out
    clear HA
    simp only [prog_step.j0] at H
    have HC16 := Aside0.mk H
    clear H
    go_upto_if 37 with (fail)
    go_cut [14] (fun v14 wc => ∃ (kq : Nat) (x14_15 : Int), v14 = .int .i64 x14_15 ∧ Aside0 (prog_step.j1 kq l0 x14_15 a1_0 a1_1 ((rd_T67 l0 a1_0).f0) ((rd_T67 l0 a1_0).f1) ((rd_T67 l0 a1_0).f2) ((rd_T67 l0 a1_0).f3.f0) ((rd_T67 l0 a1_0).f3.f1) ((rd_T67 l0 a1_0).f3.f2) ((rd_T67 l0 a1_0).f3.f3) ((rd_T67 l0 a1_0).f4) = some (r1, r2, r3, r4, r5, r6, r7, r8)) ∧ Aside0 (kq ≤ kj6) ∧ Aside0 (wc.heap[gb101]? = some (.cells #[.int .i64 a1_0, .int .i64 a1_1] 57 (0, 0))) ∧ Aside0 (wc.heap[gb103]? = some (.cells #[.int .i64 ((rd_T67 l0 a1_0).f0), .string ((rd_T67 l0 a1_0).f1), .string ((rd_T67 l0 a1_0).f2), .int .i64 ((rd_T67 l0 a1_0).f3.f0), .int .i64 ((rd_T67 l0 a1_0).f3.f1), .string ((rd_T67 l0 a1_0).f3.f2), (.slice A102_6 ((rd_T67 l0 a1_0).f3.f3).length c102_6), .int .i64 ((rd_T67 l0 a1_0).f4)] 67 (0, 0))) ∧ Aside0 (Below w.heap.size w wc))
    case first =>
     have H := HC16.out
     clear HC16
     by_cases c17 : x37_6 = true
     ·subst c17
      rw [if_pos rfl] at H
      replace H := qi H
      obtain ⟨⟨t109, t110⟩, A18, H⟩ := H
      replace H : (if t110 = 0 then (prog_step.j1 kj6 l0 t109 a1_0 a1_1 ((rd_T67 l0 a1_0).f0) ((rd_T67 l0 a1_0).f1) ((rd_T67 l0 a1_0).f2) ((rd_T67 l0 a1_0).f3.f0) ((rd_T67 l0 a1_0).f3.f1) ((rd_T67 l0 a1_0).f3.f2) ((rd_T67 l0 a1_0).f3.f3) ((rd_T67 l0 a1_0).f4)) else (some (0, 0, 0, (⟨#[]⟩ : ByteArray), (⟨#[]⟩ : ByteArray), 0, 0, t110))) = some (r1, r2, r3, r4, r5, r6, r7, r8) := H
      by_cases c19 : t110 = 0
      ·rw [if_pos c19] at H
       obtain ⟨c19b0, c19b1⟩ := qe c19
       clear c19
       (first | rw [c19b0] | (simp only [i64_w, i32_w]; rw [c19b0]) | skip)
       have H' := Aside0.mk H
       clear H
       have hnb20 := NB103_101.out
       have hnc20 := NB101_103.out
       obtain ⟨_, _, _, _, _, _, _, _, _, _, _, _, _, _, _, _⟩ := q8 BK103.out
       go_wp2_with (first | ((with_reducible refine gate_callee (f := 30) rfl ?_); refine goesL_ (some 42) rfl rfl Tryd.func30 (by kernel_rfl) rfl #[.agg #[.int .i64 ((rd_T67 l0 a1_0).f3.f0), .int .i64 ((rd_T67 l0 a1_0).f3.f1), .string ((rd_T67 l0 a1_0).f3.f2), .slice A102_6 ((rd_T67 l0 a1_0).f3.f3).length c102_6], .slice A2 l2.length c2] rfl qm ?_; (with_reducible refine (expr_Eval.calls kj6 ((rd_T67 l0 a1_0).f3.f0) ((rd_T67 l0 a1_0).f3.f1) ((rd_T67 l0 a1_0).f3.f2) _ _ ((rd_T67 l0 a1_0).f3.f3) _ _ l2 t109 t110 _ ?side1 ?side2 ?side3 ?side4 A18.out (by first | exact HT0.out | exact UT.below HT0.out qb)).mono ?_); (case side1 => exact qC HR102_6.out); (case side2 => exact HC102_6.out); (case side3 => exact qC HR2.out); (case side4 => exact HC2.out); rintro e w22 ⟨rfl, hb⟩; refine ⟨_, rfl, ?_⟩; have n0_ := qn101 (g := gb101) hb; have n1_ := qn103 (g := gb103) hb; have n2_ := qs hb; clear BK101; clear BK103; clear HB; have BK101 := n0_; have BK103 := n1_; have HB := n2_; clear n0_ n1_ n2_; (try clear hb)))
       go_meet
       case rel => exact ⟨_, (t109), qv, H', ⟨by have := HJ6.out; first | omega | exact Nat.le_refl _⟩, qk101, qk103, qB⟩
      rw [if_neg c19] at H
      obtain ⟨c19b0, c19b1⟩ := qd c19
      (first | rw [c19b0] | (simp only [i64_w, i32_w]; rw [c19b0]) | skip)
      simp only [Option.some.injEq, Prod.mk.injEq] at H
      obtain ⟨rfl, rfl, rfl, rfl, rfl, rfl, rfl, rfl⟩ := H
      have hnb23 := NB103_101.out
      have hnc23 := NB101_103.out
      obtain ⟨_, _, _, _, _, _, _, _, _, _, _, _, _, _, _, _⟩ := q8 BK103.out
      go_wp2_with (first | ((with_reducible refine gate_callee (f := 30) rfl ?_); refine goesL_ (some 42) rfl rfl Tryd.func30 (by kernel_rfl) rfl #[.agg #[.int .i64 ((rd_T67 l0 a1_0).f3.f0), .int .i64 ((rd_T67 l0 a1_0).f3.f1), .string ((rd_T67 l0 a1_0).f3.f2), .slice A102_6 ((rd_T67 l0 a1_0).f3.f3).length c102_6], .slice A2 l2.length c2] rfl qm ?_; (with_reducible refine (expr_Eval.calls kj6 ((rd_T67 l0 a1_0).f3.f0) ((rd_T67 l0 a1_0).f3.f1) ((rd_T67 l0 a1_0).f3.f2) _ _ ((rd_T67 l0 a1_0).f3.f3) _ _ l2 t109 t110 _ ?side1 ?side2 ?side3 ?side4 A18.out (by first | exact HT0.out | exact UT.below HT0.out qb)).mono ?_); (case side1 => exact qC HR102_6.out); (case side2 => exact HC102_6.out); (case side3 => exact qC HR2.out); (case side4 => exact HC2.out); rintro e w25 ⟨rfl, hb⟩; refine ⟨_, rfl, ?_⟩; have n0_ := qn101 (g := gb101) hb; have n1_ := qn103 (g := gb103) hb; have n2_ := qs hb; clear BK101; clear BK103; clear HB; have BK101 := n0_; have BK103 := n1_; have HB := n2_; clear n0_ n1_ n2_; (try clear hb)))
      go_ret2
      exact qr
     replace c17 := Bool.eq_false_iff.mpr c17
     subst c17
     rw [if_neg qf] at H
     have H' := Aside0.mk H
     clear H
     go_wp2
     go_meet
     case rel => exact ⟨_, (0), qv, H', ⟨by have := HJ6.out; first | omega | exact Nat.le_refl _⟩, qk101, qk103, qB⟩
    clear HC16
    obtain ⟨kq, x14_15, rfl, HA, HJ15, BK101, BK103, HB⟩ := hcut
    cases kq with
    | zero => exact absurd HA.out (by simp [prog_step.j1])
    | succ kj15 =>
     have H := HA.out
     clear HA
     simp only [prog_step.j1] at H
     have HC26 := Aside0.mk H
     clear H
     have hnb27 := NB101_103.out
     have hnc27 := NB103_101.out
     obtain ⟨_, _, _, _⟩ := q2 BK101.out
     go_upto_if 55 with (first | ((with_reducible refine gate_dst (N := 17) rfl ?_); (try (refine gate_guard (by rfl) ?_; dsimp only)); refine box_event ?hg (N := 17) ?hd (cs := #[.int .i64 0, .int .i64 0]) (t := 114) ?hr ?_; (case hd => rfl); (case hg => rfl); (case hr => first | (go_simp; done) | (go_simp; rfl)); intro gb111 hg w29 hbox hb; have n0_ := qn101 (g := gb101) hb; have n1_ := qn103 (g := gb103) hb; have n2_ := qs hb; have n3_ := Aside0.mk (hbox); have n4_ := Aside0.mk ((by rw [hg]; exact (below_size qb) : w.heap.size ≤ gb111)); have n5_ := Aside0.mk ((by rw [hg]; exact (below_size qb) : w.heap.size ≤ gb111)); have n6_ := Aside0.mk ((by rw [hg]; exact Nat.ne_of_lt (blk_lt (g := gb101) (o := .cells #[.int .i64 a1_0, .int .i64 a1_1] 57 (0, 0)) (by (with_reducible repeat (first | refine blk_drewN ?_ _ | refine blk_drew ?_ | refine blk_alloc ?_ _)); exact BK101.out)) : gb101 ≠ gb111)); have n7_ := Aside0.mk ((by rw [hg]; exact Nat.ne_of_gt (blk_lt (g := gb101) (o := .cells #[.int .i64 a1_0, .int .i64 a1_1] 57 (0, 0)) (by (with_reducible repeat (first | refine blk_drewN ?_ _ | refine blk_drew ?_ | refine blk_alloc ?_ _)); exact BK101.out)) : gb111 ≠ gb101)); have n8_ := Aside0.mk ((by rw [hg]; exact Nat.ne_of_lt (blk_lt (g := gb103) (o := .cells #[.int .i64 ((rd_T67 l0 a1_0).f0), .string ((rd_T67 l0 a1_0).f1), .string ((rd_T67 l0 a1_0).f2), .int .i64 ((rd_T67 l0 a1_0).f3.f0), .int .i64 ((rd_T67 l0 a1_0).f3.f1), .string ((rd_T67 l0 a1_0).f3.f2), .slice A102_6 ((rd_T67 l0 a1_0).f3.f3).length c102_6, .int .i64 ((rd_T67 l0 a1_0).f4)] 67 (0, 0)) (by (with_reducible repeat (first | refine blk_drewN ?_ _ | refine blk_drew ?_ | refine blk_alloc ?_ _)); exact BK103.out)) : gb103 ≠ gb111)); have n9_ := Aside0.mk ((by rw [hg]; exact Nat.ne_of_gt (blk_lt (g := gb103) (o := .cells #[.int .i64 ((rd_T67 l0 a1_0).f0), .string ((rd_T67 l0 a1_0).f1), .string ((rd_T67 l0 a1_0).f2), .int .i64 ((rd_T67 l0 a1_0).f3.f0), .int .i64 ((rd_T67 l0 a1_0).f3.f1), .string ((rd_T67 l0 a1_0).f3.f2), .slice A102_6 ((rd_T67 l0 a1_0).f3.f3).length c102_6, .int .i64 ((rd_T67 l0 a1_0).f4)] 67 (0, 0)) (by (with_reducible repeat (first | refine blk_drewN ?_ _ | refine blk_drew ?_ | refine blk_alloc ?_ _)); exact BK103.out)) : gb111 ≠ gb103)); clear BK101; clear BK103; clear HB; have BK101 := n0_; have BK103 := n1_; have HB := n2_; have BK111 := n3_; have GW111 := n4_; have GE111 := n5_; have NB101_111 := n6_; have NB111_101 := n7_; have NB103_111 := n8_; have NB111_103 := n9_; clear n0_ n1_ n2_ n3_ n4_ n5_ n6_ n7_ n8_ n9_; clear hb hbox hg; have hnb30 := NB111_101.out; have hnc30 := NB101_111.out; have hnb31 := NB111_103.out; have hnc31 := NB103_111.out; obtain ⟨_, _, _, _⟩ := q2 BK111.out; obtain ⟨_, _, _, _, _, _, _, _, _, _, _, _, _, _, _, _⟩ := q8 BK103.out))
     (try simp only [Act.put, List.setIfInBounds_toArray, List.set_cons_zero, List.set_cons_succ])
     go_cut [55] (fun v55 wc => ∃ (kq : Nat) (x55_25 : Bool), v55 = .bool x55_25 ∧ Aside0 (prog_step.j2 kq l0 x14_15 ((rd_T67 l0 a1_0).f0) x55_25 a1_0 a1_1 ((rd_T67 l0 a1_0).f0) ((rd_T67 l0 a1_0).f1) ((rd_T67 l0 a1_0).f2) ((rd_T67 l0 a1_0).f3.f0) ((rd_T67 l0 a1_0).f3.f1) ((rd_T67 l0 a1_0).f3.f2) ((rd_T67 l0 a1_0).f3.f3) ((rd_T67 l0 a1_0).f4) (wrap64 (a1_0 + 1)) 0 = some (r1, r2, r3, r4, r5, r6, r7, r8)) ∧ Aside0 (kq ≤ kj15) ∧ Aside0 (wc.heap[gb101]? = some (.cells #[.int .i64 a1_0, .int .i64 a1_1] 57 (0, 0))) ∧ Aside0 (wc.heap[gb103]? = some (.cells #[.int .i64 ((rd_T67 l0 a1_0).f0), .string ((rd_T67 l0 a1_0).f1), .string ((rd_T67 l0 a1_0).f2), .int .i64 ((rd_T67 l0 a1_0).f3.f0), .int .i64 ((rd_T67 l0 a1_0).f3.f1), .string ((rd_T67 l0 a1_0).f3.f2), (.slice A102_6 ((rd_T67 l0 a1_0).f3.f3).length c102_6), .int .i64 ((rd_T67 l0 a1_0).f4)] 67 (0, 0))) ∧ Aside0 (wc.heap[gb111]? = some (.cells #[.int .i64 (wrap64 (a1_0 + 1)), .int .i64 0] 114 (0, 0))) ∧ Aside0 (Below w.heap.size w wc))
     case first =>
      have H := HC26.out
      clear HC26
      by_cases c34 : ((rd_T67 l0 a1_0).f0) = 0
      ·rw [if_pos c34] at H
       obtain ⟨c34b0, c34b1⟩ := qe c34
       clear c34
       (first | rw [c34b0] | (simp only [i64_w, i32_w]; rw [c34b0]) | skip)
       have H' := Aside0.mk H
       clear H
       go_wp2
       go_meet
       case rel => exact ⟨_, ((((rd_T67 l0 a1_0).f0) == 0)), qv, H', ⟨by have := HJ6.out; have := HJ15.out; first | omega | exact Nat.le_refl _⟩, ⟨by (with_reducible repeat (first | refine blk_drewN ?_ _ | refine blk_drew ?_ | refine blk_alloc ?_ _)); refine blk_far ?_ NB101_111.out _; (with_reducible repeat (first | refine blk_drewN ?_ _ | refine blk_drew ?_ | refine blk_alloc ?_ _)); refine blk_far ?_ NB101_111.out _; (with_reducible repeat (first | refine blk_drewN ?_ _ | refine blk_drew ?_ | refine blk_alloc ?_ _)); exact BK101.out⟩, ⟨by (with_reducible repeat (first | refine blk_drewN ?_ _ | refine blk_drew ?_ | refine blk_alloc ?_ _)); refine blk_far ?_ NB103_111.out _; (with_reducible repeat (first | refine blk_drewN ?_ _ | refine blk_drew ?_ | refine blk_alloc ?_ _)); refine blk_far ?_ NB103_111.out _; (with_reducible repeat (first | refine blk_drewN ?_ _ | refine blk_drew ?_ | refine blk_alloc ?_ _)); exact BK103.out⟩, qY111, qB⟩
      rw [if_neg c34] at H
      obtain ⟨c34b0, c34b1⟩ := qd c34
      (first | rw [c34b0] | (simp only [i64_w, i32_w]; rw [c34b0]) | skip)
      by_cases c35 : ((rd_T67 l0 a1_0).f0) = 3
      ·rw [if_pos c35] at H
       obtain ⟨c35b0, c35b1⟩ := qe c35
       clear c35
       have H' := Aside0.mk H
       clear H
       go_wp2
       go_meet
       case rel => exact ⟨_, ((((rd_T67 l0 a1_0).f0) == 3)), qv, H', ⟨by have := HJ6.out; have := HJ15.out; first | omega | exact Nat.le_refl _⟩, ⟨by (with_reducible repeat (first | refine blk_drewN ?_ _ | refine blk_drew ?_ | refine blk_alloc ?_ _)); refine blk_far ?_ NB101_111.out _; (with_reducible repeat (first | refine blk_drewN ?_ _ | refine blk_drew ?_ | refine blk_alloc ?_ _)); refine blk_far ?_ NB101_111.out _; (with_reducible repeat (first | refine blk_drewN ?_ _ | refine blk_drew ?_ | refine blk_alloc ?_ _)); exact BK101.out⟩, ⟨by (with_reducible repeat (first | refine blk_drewN ?_ _ | refine blk_drew ?_ | refine blk_alloc ?_ _)); refine blk_far ?_ NB103_111.out _; (with_reducible repeat (first | refine blk_drewN ?_ _ | refine blk_drew ?_ | refine blk_alloc ?_ _)); refine blk_far ?_ NB103_111.out _; (with_reducible repeat (first | refine blk_drewN ?_ _ | refine blk_drew ?_ | refine blk_alloc ?_ _)); exact BK103.out⟩, qY111, qB⟩
      rw [if_neg c35] at H
      obtain ⟨c35b0, c35b1⟩ := qd c35
      by_cases c36 : ((rd_T67 l0 a1_0).f0) = 4
      ·rw [if_pos c36] at H
       obtain ⟨c36b0, c36b1⟩ := qe c36
       clear c36
       have H' := Aside0.mk H
       clear H
       go_wp2
       go_meet
       case rel => exact ⟨_, ((((rd_T67 l0 a1_0).f0) == 4)), qv, H', ⟨by have := HJ6.out; have := HJ15.out; first | omega | exact Nat.le_refl _⟩, ⟨by (with_reducible repeat (first | refine blk_drewN ?_ _ | refine blk_drew ?_ | refine blk_alloc ?_ _)); refine blk_far ?_ NB101_111.out _; (with_reducible repeat (first | refine blk_drewN ?_ _ | refine blk_drew ?_ | refine blk_alloc ?_ _)); refine blk_far ?_ NB101_111.out _; (with_reducible repeat (first | refine blk_drewN ?_ _ | refine blk_drew ?_ | refine blk_alloc ?_ _)); exact BK101.out⟩, ⟨by (with_reducible repeat (first | refine blk_drewN ?_ _ | refine blk_drew ?_ | refine blk_alloc ?_ _)); refine blk_far ?_ NB103_111.out _; (with_reducible repeat (first | refine blk_drewN ?_ _ | refine blk_drew ?_ | refine blk_alloc ?_ _)); refine blk_far ?_ NB103_111.out _; (with_reducible repeat (first | refine blk_drewN ?_ _ | refine blk_drew ?_ | refine blk_alloc ?_ _)); exact BK103.out⟩, qY111, qB⟩
      rw [if_neg c36] at H
      obtain ⟨c36b0, c36b1⟩ := qd c36
      have H' := Aside0.mk H
      clear H
      go_wp2
      go_meet
      case rel => exact ⟨_, ((((rd_T67 l0 a1_0).f0) == 5)), qv, H', ⟨by have := HJ6.out; have := HJ15.out; first | omega | exact Nat.le_refl _⟩, ⟨by (with_reducible repeat (first | refine blk_drewN ?_ _ | refine blk_drew ?_ | refine blk_alloc ?_ _)); refine blk_far ?_ NB101_111.out _; (with_reducible repeat (first | refine blk_drewN ?_ _ | refine blk_drew ?_ | refine blk_alloc ?_ _)); refine blk_far ?_ NB101_111.out _; (with_reducible repeat (first | refine blk_drewN ?_ _ | refine blk_drew ?_ | refine blk_alloc ?_ _)); exact BK101.out⟩, ⟨by (with_reducible repeat (first | refine blk_drewN ?_ _ | refine blk_drew ?_ | refine blk_alloc ?_ _)); refine blk_far ?_ NB103_111.out _; (with_reducible repeat (first | refine blk_drewN ?_ _ | refine blk_drew ?_ | refine blk_alloc ?_ _)); refine blk_far ?_ NB103_111.out _; (with_reducible repeat (first | refine blk_drewN ?_ _ | refine blk_drew ?_ | refine blk_alloc ?_ _)); exact BK103.out⟩, qY111, qB⟩
     clear HC26
     obtain ⟨kq, x55_25, rfl, HA, HJ25, BK101, BK103, BK111, HB⟩ := hcut
     cases kq with
     | zero => exact absurd HA.out (by simp [prog_step.j2])
     | succ kj25 =>
      have H := HA.out
      clear HA
      simp only [prog_step.j2] at H
      by_cases c37 : x55_25 = true
      ·subst c37
       rw [if_pos rfl] at H
       simp only [Option.some.injEq, Prod.mk.injEq] at H
       obtain ⟨rfl, rfl, rfl, rfl, rfl, rfl, rfl, rfl⟩ := H
       have hnb38 := NB111_101.out
       have hnc38 := NB101_111.out
       have hnb39 := NB111_103.out
       have hnc39 := NB103_111.out
       obtain ⟨_, _, _, _⟩ := q2 BK111.out
       have hnb41 := NB103_101.out
       have hnc41 := NB101_103.out
       obtain ⟨_, _, _, _, _, _, _, _, _, _, _, _, _, _, _, _⟩ := q8 BK103.out
       go_wp2
       go_ret2
       exact qr
      replace c37 := Bool.eq_false_iff.mpr c37
      subst c37
      rw [if_neg qf] at H
      by_cases c43 : ((rd_T67 l0 a1_0).f0) = 7
      ·rw [if_pos c43] at H
       obtain ⟨c43b0, c43b1⟩ := qe c43
       clear c43
       simp only [Option.some.injEq, Prod.mk.injEq] at H
       obtain ⟨rfl, rfl, rfl, rfl, rfl, rfl, rfl, rfl⟩ := H
       have hnb44 := NB111_101.out
       have hnc44 := NB101_111.out
       have hnb45 := NB111_103.out
       have hnc45 := NB103_111.out
       obtain ⟨_, _, _, _⟩ := q2 BK111.out
       have hnb47 := NB103_101.out
       have hnc47 := NB101_103.out
       obtain ⟨_, _, _, _, _, _, _, _, _, _, _, _, _, _, _, _⟩ := q8 BK103.out
       go_wp2
       go_ret2
       exact qr
      rw [if_neg c43] at H
      obtain ⟨c43b0, c43b1⟩ := qd c43
      by_cases c49 : ((rd_T67 l0 a1_0).f0) = 1
      ·rw [if_pos c49] at H
       obtain ⟨c49b0, c49b1⟩ := qe c49
       clear c49
       by_cases c50 : x14_15 = 0
       ·rw [if_pos c50] at H
        obtain ⟨c50b0, c50b1⟩ := qe c50
        clear c50
        simp only [Option.some.injEq, Prod.mk.injEq] at H
        obtain ⟨rfl, rfl, rfl, rfl, rfl, rfl, rfl, rfl⟩ := H
        have hnb51 := NB101_103.out
        have hnc51 := NB103_101.out
        have hnb52 := NB101_111.out
        have hnc52 := NB111_101.out
        obtain ⟨_, _, _, _⟩ := q2 BK101.out
        have hnb54 := NB111_103.out
        have hnc54 := NB103_111.out
        obtain ⟨_, _, _, _⟩ := q2 BK111.out
        go_wp2
        go_ret2
        exact qr
       rw [if_neg c50] at H
       obtain ⟨c50b0, c50b1⟩ := qd c50
       simp only [Option.some.injEq, Prod.mk.injEq] at H
       obtain ⟨rfl, rfl, rfl, rfl, rfl, rfl, rfl, rfl⟩ := H
       have hnb56 := NB111_101.out
       have hnc56 := NB101_111.out
       have hnb57 := NB111_103.out
       have hnc57 := NB103_111.out
       obtain ⟨_, _, _, _⟩ := q2 BK111.out
       go_wp2
       go_ret2
       exact qr
      rw [if_neg c49] at H
      obtain ⟨c49b0, c49b1⟩ := qd c49
      by_cases c59 : ((rd_T67 l0 a1_0).f0) = 2
      ·rw [if_pos c59] at H
       obtain ⟨c59b0, c59b1⟩ := qe c59
       clear c59
       replace H := qi H
       obtain ⟨⟨t112, t113⟩, A60, H⟩ := H
       replace H : (some (t112, t113, 0, (⟨#[]⟩ : ByteArray), (⟨#[]⟩ : ByteArray), 0, 1, 0)) = some (r1, r2, r3, r4, r5, r6, r7, r8) := H
       simp only [Option.some.injEq, Prod.mk.injEq] at H
       obtain ⟨rfl, rfl, rfl, rfl, rfl, rfl, rfl, rfl⟩ := H
       have hnb61 := NB101_103.out
       have hnc61 := NB103_101.out
       have hnb62 := NB101_111.out
       have hnc62 := NB111_101.out
       obtain ⟨_, _, _, _⟩ := q2 BK101.out
       have hnb64 := NB111_103.out
       have hnc64 := NB103_111.out
       obtain ⟨_, _, _, _⟩ := q2 BK111.out
       go_wp2_with (first | ((with_reducible refine gate_callee (f := 102) rfl ?_); refine goesL_ (some 91) rfl rfl Tryd.func102 (by kernel_rfl) rfl #[.agg #[.int .i64 a1_0, .int .i64 a1_1], .int .i64 x14_15, .agg #[.int .i64 (wrap64 (a1_0 + 1)), .int .i64 0]] rfl qm ?_; (with_reducible refine (prog_delayed.calls a1_0 a1_1 x14_15 (wrap64 (a1_0 + 1)) 0 t112 t113 _ A60.out).mono ?_); rintro e w66 ⟨rfl, hb⟩; refine ⟨_, rfl, ?_⟩; have n0_ := qn101 (g := gb101) hb; have n1_ := qn103 (g := gb103) hb; have n2_ := qn111 (g := gb111) hb; have n3_ := qs hb; clear BK101; clear BK103; clear BK111; clear HB; have BK101 := n0_; have BK103 := n1_; have BK111 := n2_; have HB := n3_; clear n0_ n1_ n2_ n3_; (try clear hb); obtain ⟨_, _, _, _⟩ := q2 BK111.out))
       go_ret2
       exact qr
      rw [if_neg c59] at H
      obtain ⟨c59b0, c59b1⟩ := qd c59
      by_cases c68 : ((rd_T67 l0 a1_0).f0) = 6
      ·rw [if_pos c68] at H
       obtain ⟨c68b0, c68b1⟩ := qe c68
       clear c68
       by_cases c69 : ((rd_T67 l0 a1_0).f4) < 0
       ·rw [if_pos c69] at H
        have c69b0 : decide (((rd_T67 l0 a1_0).f4) < 0) = true := decide_eq_true c69
        clear c69
        simp only [Option.some.injEq, Prod.mk.injEq] at H
        obtain ⟨rfl, rfl, rfl, rfl, rfl, rfl, rfl, rfl⟩ := H
        have hnb70 := NB103_101.out
        have hnc70 := NB101_103.out
        have hnb71 := NB103_111.out
        have hnc71 := NB111_103.out
        obtain ⟨_, _, _, _, _, _, _, _, _, _, _, _, _, _, _, _⟩ := q8 BK103.out
        go_wp2
        go_ret2
        exact qr
       rw [if_neg c69] at H
       have c69b0 : decide (((rd_T67 l0 a1_0).f4) < 0) = false := decide_eq_false c69
       clear c69
       by_cases c73 : ((rd_T67 l0 a1_0).f4) > (l0.length : Int)
       ·rw [if_pos c73] at H
        have c73b0 : decide ((l0.length : Int) < ((rd_T67 l0 a1_0).f4)) = true := decide_eq_true c73
        clear c73
        simp only [Option.some.injEq, Prod.mk.injEq] at H
        obtain ⟨rfl, rfl, rfl, rfl, rfl, rfl, rfl, rfl⟩ := H
        have hnb74 := NB103_101.out
        have hnc74 := NB101_103.out
        have hnb75 := NB103_111.out
        have hnc75 := NB111_103.out
        obtain ⟨_, _, _, _, _, _, _, _, _, _, _, _, _, _, _, _⟩ := q8 BK103.out
        go_wp2
        go_ret2
        exact qr
       rw [if_neg c73] at H
       have c73b0 : decide ((l0.length : Int) < ((rd_T67 l0 a1_0).f4)) = false := decide_eq_false c73
       clear c73
       simp only [Option.some.injEq, Prod.mk.injEq] at H
       obtain ⟨rfl, rfl, rfl, rfl, rfl, rfl, rfl, rfl⟩ := H
       have hnb77 := NB103_101.out
       have hnc77 := NB101_103.out
       have hnb78 := NB103_111.out
       have hnc78 := NB111_103.out
       obtain ⟨_, _, _, _, _, _, _, _, _, _, _, _, _, _, _, _⟩ := q8 BK103.out
       have hnb80 := NB111_101.out
       have hnc80 := NB101_111.out
       obtain ⟨_, _, _, _⟩ := q2 BK111.out
       go_wp2
       go_ret2
       exact qr
      rw [if_neg c68] at H
      obtain ⟨c68b0, c68b1⟩ := qd c68
      simp only [Option.some.injEq, Prod.mk.injEq] at H
      obtain ⟨rfl, rfl, rfl, rfl, rfl, rfl, rfl, rfl⟩ := H
      have hnb82 := NB111_101.out
      have hnc82 := NB101_111.out
      have hnb83 := NB111_103.out
      have hnc83 := NB103_111.out
      obtain ⟨_, _, _, _⟩ := q2 BK111.out
      go_wp2
      go_ret2
      exact qr
  rw [if_neg c5] at H
  exact absurd H (by simp)
 rw [if_neg c4] at H
 exact absurd H (by simp)
end Go.Proofs.YtiaccdaeomaogaaDoor.F
