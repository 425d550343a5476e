/- Texts of one claim, slimmed and merged by slim.py. -/
import Derived.Test.YtiaccdaeomaogaaDoorP4
import Derived.Test.YtiaccdaeomaogaaDoorP7
import Derived.Test.YtiaccdaeomaogaaDoorP11
import Derived.Test.YtiaccdaeomaogaaDoorP14
namespace Go.Proofs.YtiaccdaeomaogaaDoor.F
open Go.RowKit Go.Proofs.YtiaccdaeomaogaaDoorW.PrintWords Go.Proofs.YtiaccdaeomaogaaDoorW.PrintLast Go.Proofs.YtiaccdaeomaogaaDoorW.PrintMore
attribute [local go_sem] max2_int min2_int max_two min_two max_three min_three max_four min_four   -- for this text's walks alone
set_option linter.unusedVariables false
set_option linter.unusedSimpArgs false
mutual
def prog_step.j0 : Nat → List (S67) → List (S69) → Int → Bool → Int → Int → Int → ByteArray → ByteArray → Int → Int → ByteArray → List (S34) → Int → Option (Int × Int × Int × ByteArray × ByteArray × Int × Int × Int)
 | 0, _, _, _, _, _, _, _, _, _, _, _, _, _, _ => none
 | k + 1, x0, x2, x14, x37, x102000, x102001, x104000, x104001, x104002, x104003, x104004, x104005, x104006, x104007 => if x37 = true then ((expr_Eval.f k x104003 x104004 x104005 x104006 x2).bind fun bt109 => (if bt109.2 = 0 then (prog_step.j1 k x0 bt109.1 x102000 x102001 x104000 x104001 x104002 x104003 x104004 x104005 x104006 x104007) else (some (0, 0, 0, (⟨#[]⟩ : ByteArray), (⟨#[]⟩ : ByteArray), 0, 0, bt109.2)))) else (prog_step.j1 k x0 x14 x102000 x102001 x104000 x104001 x104002 x104003 x104004 x104005 x104006 x104007)
def prog_step.j1 : Nat → List (S67) → Int → Int → Int → Int → ByteArray → ByteArray → Int → Int → ByteArray → List (S34) → Int → Option (Int × Int × Int × ByteArray × ByteArray × Int × Int × Int)
 | 0, _, _, _, _, _, _, _, _, _, _, _, _ => none
 | k + 1, x0, x14, x102000, x102001, x104000, x104001, x104002, x104003, x104004, x104005, x104006, x104007 => if x104000 = 0 then (prog_step.j2 k x0 x14 x104000 (x104000 == 0) x102000 x102001 x104000 x104001 x104002 x104003 x104004 x104005 x104006 x104007 (wrap64 (x102000 + 1)) 0) else (if x104000 = 3 then (prog_step.j2 k x0 x14 x104000 (x104000 == 3) x102000 x102001 x104000 x104001 x104002 x104003 x104004 x104005 x104006 x104007 (wrap64 (x102000 + 1)) 0) else (if x104000 = 4 then (prog_step.j2 k x0 x14 x104000 (x104000 == 4) x102000 x102001 x104000 x104001 x104002 x104003 x104004 x104005 x104006 x104007 (wrap64 (x102000 + 1)) 0) else (prog_step.j2 k x0 x14 x104000 (x104000 == 5) x102000 x102001 x104000 x104001 x104002 x104003 x104004 x104005 x104006 x104007 (wrap64 (x102000 + 1)) 0)))
def prog_step.j2 : Nat → List (S67) → Int → Int → Bool → Int → Int → Int → ByteArray → ByteArray → Int → Int → ByteArray → List (S34) → Int → Int → Int → Option (Int × Int × Int × ByteArray × ByteArray × Int × Int × Int)
 | 0, _, _, _, _, _, _, _, _, _, _, _, _, _, _, _, _ => none
 | k + 1, x0, x14, x54, x55, x102000, x102001, x104000, x104001, x104002, x104003, x104004, x104005, x104006, x104007, x112000, x112001 => if x55 = true then (some (x112000, x112001, x104000, x104001, x104002, x14, 2, 0)) else (if x54 = 7 then (some (x112000, x112001, x104000, x104001, (⟨#[]⟩ : ByteArray), 0, 2, 0)) else (if x54 = 1 then (if x14 = 0 then (some (x102000, x102001, 0, (⟨#[]⟩ : ByteArray), (⟨#[]⟩ : ByteArray), 0, 1, 0)) else (some (x112000, x112001, 0, (⟨#[]⟩ : ByteArray), (⟨#[]⟩ : ByteArray), 0, 1, 0))) else (if x54 = 2 then ((prog_delayed.f x102000 x102001 x14 x112000 x112001).bind fun bt112 => (some (bt112.1, bt112.2, 0, (⟨#[]⟩ : ByteArray), (⟨#[]⟩ : ByteArray), 0, 1, 0))) else (if x54 = 6 then (if x104007 < 0 then (some (0, 0, 0, (⟨#[]⟩ : ByteArray), (⟨#[]⟩ : ByteArray), 0, 0, 1)) else (if x104007 > (x0.length : Int) then (some (0, 0, 0, (⟨#[]⟩ : ByteArray), (⟨#[]⟩ : ByteArray), 0, 0, 1)) else (some (x104007, 0, 0, (⟨#[]⟩ : ByteArray), (⟨#[]⟩ : ByteArray), 0, 1, 0)))) else (some (x112000, x112001, 0, (⟨#[]⟩ : ByteArray), (⟨#[]⟩ : ByteArray), 0, 1, 0))))))
end
def prog_step.f (k : Nat) (l0 : List (S67)) (a1_0 : Int) (a1_1 : Int) (l2 : List (S69)) : Option (Int × Int × Int × ByteArray × ByteArray × Int × Int × Int) := if 0 ≤ a1_0 then (if a1_0 < (l0.length : Int) then ((prog_uses.f k ((rd_T67 l0 a1_0).f0)).bind fun bt104 => (if bt104.2.2.1 = true then (prog_step.j0 k l0 l2 0 (a1_1 == 0) a1_0 a1_1 ((rd_T67 l0 a1_0).f0) ((rd_T67 l0 a1_0).f1) ((rd_T67 l0 a1_0).f2) ((rd_T67 l0 a1_0).f3.f0) ((rd_T67 l0 a1_0).f3.f1) ((rd_T67 l0 a1_0).f3.f2) ((rd_T67 l0 a1_0).f3.f3) ((rd_T67 l0 a1_0).f4)) else (prog_step.j0 k l0 l2 0 false a1_0 a1_1 ((rd_T67 l0 a1_0).f0) ((rd_T67 l0 a1_0).f1) ((rd_T67 l0 a1_0).f2) ((rd_T67 l0 a1_0).f3.f0) ((rd_T67 l0 a1_0).f3.f1) ((rd_T67 l0 a1_0).f3.f2) ((rd_T67 l0 a1_0).f3.f3) ((rd_T67 l0 a1_0).f4)))) else (none)) else (none)
theorem prog_step.mono_l : ∀ k, (∀ y0 y1 y2 y3 y4 y5 y6 y7 y8 y9 y10 y11 y12 y13, LeO (prog_step.j0 k y0 y1 y2 y3 y4 y5 y6 y7 y8 y9 y10 y11 y12 y13) (prog_step.j0 (k + 1) y0 y1 y2 y3 y4 y5 y6 y7 y8 y9 y10 y11 y12 y13)) ∧ (∀ y0 y1 y2 y3 y4 y5 y6 y7 y8 y9 y10 y11, LeO (prog_step.j1 k y0 y1 y2 y3 y4 y5 y6 y7 y8 y9 y10 y11) (prog_step.j1 (k + 1) y0 y1 y2 y3 y4 y5 y6 y7 y8 y9 y10 y11)) ∧ (∀ y0 y1 y2 y3 y4 y5 y6 y7 y8 y9 y10 y11 y12 y13 y14 y15, LeO (prog_step.j2 k y0 y1 y2 y3 y4 y5 y6 y7 y8 y9 y10 y11 y12 y13 y14 y15) (prog_step.j2 (k + 1) y0 y1 y2 y3 y4 y5 y6 y7 y8 y9 y10 y11 y12 y13 y14 y15))
 | 0 => ⟨fun _ _ _ _ _ _ _ _ _ _ _ _ _ _ r h => by simp [prog_step.j0] at h, fun _ _ _ _ _ _ _ _ _ _ _ _ r h => by simp [prog_step.j1] at h, fun _ _ _ _ _ _ _ _ _ _ _ _ _ _ _ _ r h => by simp [prog_step.j2] at h⟩
 | k + 1 => by
  obtain ⟨ih0, ih1, ih2⟩ := prog_step.mono_l k
  refine ⟨?_, ?_, ?_⟩
  ·intro y0 y1 y2 y3 y4 y5 y6 y7 y8 y9 y10 y11 y12 y13
   unfold prog_step.j0
   repeat' first
   | (with_reducible exact ih0 _ _ _ _ _ _ _ _ _ _ _ _ _ _)
   | (with_reducible exact ih1 _ _ _ _ _ _ _ _ _ _ _ _)
   | (with_reducible exact ih2 _ _ _ _ _ _ _ _ _ _ _ _ _ _ _ _)
   | (with_reducible exact expr_Eval.mono _ _ _ _ _ _)
   | (with_reducible exact prog_uses.mono _ _)
   | (with_reducible exact LeO.refl _)
   | (with_reducible exact LeO.none _)
   | (with_reducible refine LeO.ite ?_ ?_)
   | (with_reducible refine LeO.bind ?_ (fun _ => ?_))
   | exact ih0 _ _ _ _ _ _ _ _ _ _ _ _ _ _
   | exact ih1 _ _ _ _ _ _ _ _ _ _ _ _
   | exact ih2 _ _ _ _ _ _ _ _ _ _ _ _ _ _ _ _
   | exact expr_Eval.mono _ _ _ _ _ _
   | exact prog_uses.mono _ _
   | exact LeO.none _
   | refine LeO.ite ?_ ?_
   | refine LeO.bind ?_ (fun _ => ?_)
  ·intro y0 y1 y2 y3 y4 y5 y6 y7 y8 y9 y10 y11
   unfold prog_step.j1
   repeat' first
   | (with_reducible exact ih0 _ _ _ _ _ _ _ _ _ _ _ _ _ _)
   | (with_reducible exact ih1 _ _ _ _ _ _ _ _ _ _ _ _)
   | (with_reducible exact ih2 _ _ _ _ _ _ _ _ _ _ _ _ _ _ _ _)
   | (with_reducible exact expr_Eval.mono _ _ _ _ _ _)
   | (with_reducible exact prog_uses.mono _ _)
   | (with_reducible exact LeO.refl _)
   | (with_reducible exact LeO.none _)
   | (with_reducible refine LeO.ite ?_ ?_)
   | (with_reducible refine LeO.bind ?_ (fun _ => ?_))
   | exact ih0 _ _ _ _ _ _ _ _ _ _ _ _ _ _
   | exact ih1 _ _ _ _ _ _ _ _ _ _ _ _
   | exact ih2 _ _ _ _ _ _ _ _ _ _ _ _ _ _ _ _
   | exact expr_Eval.mono _ _ _ _ _ _
   | exact prog_uses.mono _ _
   | exact LeO.none _
   | refine LeO.ite ?_ ?_
   | refine LeO.bind ?_ (fun _ => ?_)
  ·intro y0 y1 y2 y3 y4 y5 y6 y7 y8 y9 y10 y11 y12 y13 y14 y15
   unfold prog_step.j2
   repeat' first
   | (with_reducible exact ih0 _ _ _ _ _ _ _ _ _ _ _ _ _ _)
   | (with_reducible exact ih1 _ _ _ _ _ _ _ _ _ _ _ _)
   | (with_reducible exact ih2 _ _ _ _ _ _ _ _ _ _ _ _ _ _ _ _)
   | (with_reducible exact expr_Eval.mono _ _ _ _ _ _)
   | (with_reducible exact prog_uses.mono _ _)
   | (with_reducible exact LeO.refl _)
   | (with_reducible exact LeO.none _)
   | (with_reducible refine LeO.ite ?_ ?_)
   | (with_reducible refine LeO.bind ?_ (fun _ => ?_))
   | exact ih0 _ _ _ _ _ _ _ _ _ _ _ _ _ _
   | exact ih1 _ _ _ _ _ _ _ _ _ _ _ _
   | exact ih2 _ _ _ _ _ _ _ _ _ _ _ _ _ _ _ _
   | exact expr_Eval.mono _ _ _ _ _ _
   | exact prog_uses.mono _ _
   | exact LeO.none _
   | refine LeO.ite ?_ ?_
   | refine LeO.bind ?_ (fun _ => ?_)
theorem prog_step.mono : ∀ a0 a1 a2 a3 k, LeO (prog_step.f k a0 a1 a2 a3) (prog_step.f (k + 1) a0 a1 a2 a3) := by
 intro a0 a1 a2 a3 k
 obtain ⟨ih0, ih1, ih2⟩ := prog_step.mono_l k
 unfold prog_step.f
 repeat' first
   | (with_reducible exact ih0 _ _ _ _ _ _ _ _ _ _ _ _ _ _)
   | (with_reducible exact ih1 _ _ _ _ _ _ _ _ _ _ _ _)
   | (with_reducible exact ih2 _ _ _ _ _ _ _ _ _ _ _ _ _ _ _ _)
   | (with_reducible exact expr_Eval.mono _ _ _ _ _ _)
   | (with_reducible exact prog_uses.mono _ _)
   | (with_reducible exact LeO.refl _)
   | (with_reducible exact LeO.none _)
   | (with_reducible refine LeO.ite ?_ ?_)
   | (with_reducible refine LeO.bind ?_ (fun _ => ?_))
   | exact ih0 _ _ _ _ _ _ _ _ _ _ _ _ _ _
   | exact ih1 _ _ _ _ _ _ _ _ _ _ _ _
   | exact ih2 _ _ _ _ _ _ _ _ _ _ _ _ _ _ _ _
   | exact expr_Eval.mono _ _ _ _ _ _
   | exact prog_uses.mono _ _
   | exact LeO.none _
   | refine LeO.ite ?_ ?_
   | refine LeO.bind ?_ (fun _ => ?_)
set_option maxHeartbeats 8000000 in
set_option maxRecDepth 100000 in
def outW (a b c : Int) (d e : ByteArray) (f m : Int) : Value := if m = 1 then .iface 114 (.agg #[.int .i64 a, .int .i64 b]) else if m = 2 then .iface 116 (.agg #[.int .i64 a, .int .i64 b, .int .i64 c, .string d, .string e, .int .i64 f]) else .nilIface
set_option maxHeartbeats 8000000 in
set_option maxRecDepth 100000 in
theorem prog_step.calls (k : Nat) (A0 : Option Addr) (c0 : Nat) (l0 : List (S67)) (a1_0 : Int) (a1_1 : Int) (A2 : Option Addr) (c2 : Nat) (l2 : List (S69)) (r1 : Int) (r2 : Int) (r3 : Int) (r4 : ByteArray) (r5 : ByteArray) (r6 : Int) (r7 : Int) (r8 : Int) (w : World) (hr0 : Kd.C k67 w A0 l0.length l0) (hc0 : l0.length ≤ c0) (hr2 : Kd.C k69 w A2 l2.length l2) (hc2 : l2.length ≤ c2) (h : prog_step.f k l0 a1_0 a1_1 l2 = some (r1, r2, r3, r4, r5, r6, r7, r8)) (hT : UT w) :
  Calls Tryd.prog 70 #[.slice A0 l0.length c0, .agg #[.int .i64 a1_0, .int .i64 a1_1], .slice A2 l2.length c2] w fun e w' => e = .returned (.tuple #[outW r1 r2 r3 r4 r5 r6 r7, .int .i64 r8]) ∧ Below w.heap.size w w' := by
 have HT0 := Aside0.mk hT
 clear hT
 have hu57 := Tryd.underlying57
 have hu114 := Tryd.underlying114
 have hu116 := Tryd.underlying116
 have hu67 := Tryd.underlying67
 have hu34 := Tryd.underlying34
 have hu114 := Tryd.underlying114
 have hu72 := Tryd.underlying72
 have hu116 := Tryd.underlying116
 have HR0 := Aside0.mk hr0
 have HC0 := Aside0.mk hc0
 clear hr0 hc0
 have HR2 := Aside0.mk hr2
 have HC2 := Aside0.mk hc2
 clear hr2 hc2
 have HB := Aside0.mk (Below.refl w.heap.size w)
 have H : (if 0 ≤ a1_0 then (if a1_0 < (l0.length : Int) then ((prog_uses.f k ((rd_T67 l0 a1_0).f0)).bind fun bt104 => (if bt104.2.2.1 = true then (prog_step.j0 k l0 l2 0 (a1_1 == 0) a1_0 a1_1 ((rd_T67 l0 a1_0).f0) ((rd_T67 l0 a1_0).f1) ((rd_T67 l0 a1_0).f2) ((rd_T67 l0 a1_0).f3.f0) ((rd_T67 l0 a1_0).f3.f1) ((rd_T67 l0 a1_0).f3.f2) ((rd_T67 l0 a1_0).f3.f3) ((rd_T67 l0 a1_0).f4)) else (prog_step.j0 k l0 l2 0 false a1_0 a1_1 ((rd_T67 l0 a1_0).f0) ((rd_T67 l0 a1_0).f1) ((rd_T67 l0 a1_0).f2) ((rd_T67 l0 a1_0).f3.f0) ((rd_T67 l0 a1_0).f3.f1) ((rd_T67 l0 a1_0).f3.f2) ((rd_T67 l0 a1_0).f3.f3) ((rd_T67 l0 a1_0).f4)))) else (none)) else (none)) = some (r1, r2, r3, r4, r5, r6, r7, r8) := h
 clear h
 by_cases c4 : 0 ≤ a1_0
 ·rw [if_pos c4] at H
  have c4b0 : decide (0 ≤ a1_0) = true := decide_eq_true c4
  clear c4
  by_cases c5 : a1_0 < (l0.length : Int)
  ·rw [if_pos c5] at H
   have c5b0 : decide (a1_0 < (l0.length : Int)) = true := decide_eq_true c5
   clear c5
   replace H := Option.bind_eq_some_iff.mp H
   obtain ⟨⟨t104, t105, t106, t107, t108⟩, A60, H⟩ := H
   replace H : (if t106 = true then (prog_step.j0 k l0 l2 0 (a1_1 == 0) a1_0 a1_1 ((rd_T67 l0 a1_0).f0) ((rd_T67 l0 a1_0).f1) ((rd_T67 l0 a1_0).f2) ((rd_T67 l0 a1_0).f3.f0) ((rd_T67 l0 a1_0).f3.f1) ((rd_T67 l0 a1_0).f3.f2) ((rd_T67 l0 a1_0).f3.f3) ((rd_T67 l0 a1_0).f4)) else (prog_step.j0 k l0 l2 0 false a1_0 a1_1 ((rd_T67 l0 a1_0).f0) ((rd_T67 l0 a1_0).f1) ((rd_T67 l0 a1_0).f2) ((rd_T67 l0 a1_0).f3.f0) ((rd_T67 l0 a1_0).f3.f1) ((rd_T67 l0 a1_0).f3.f2) ((rd_T67 l0 a1_0).f3.f3) ((rd_T67 l0 a1_0).f4))) = some (r1, r2, r3, r4, r5, r6, r7, r8) := H
   have A6 := Aside0.mk A60
   clear A60
   have HC7 := Aside0.mk H
   clear H
   go_enter Tryd.func70, Tryd.ntmps70
   go_upto_region 4 with (first | ((with_reducible refine gate_dst (N := 4) rfl ?_); (try (refine gate_guard (by rfl) ?_; dsimp only)); refine box_event ?hg (N := 4) ?hd (cs := #[.int .i64 a1_0, .int .i64 a1_1]) (t := 57) ?hr ?_; (case hd => rfl); (case hg => rfl); (case hr => first | (go_simp; done) | (go_simp; rfl)); intro gb101 hg w8 hbox hb; have n0_ := Aside0.mk (below_step (by repeat (first | (with_reducible first | exact HB.out | apply below_alloc | apply pw_below_drewN | apply below_drew1) | exact HB.out)) hb); have n1_ := Aside0.mk (hbox); have n2_ := Aside0.mk ((by rw [hg]; exact (below_size (by repeat (first | (with_reducible first | exact HB.out | apply below_alloc | apply pw_below_drewN | apply below_drew1) | exact HB.out))) : w.heap.size ≤ gb101)); have n3_ := Aside0.mk ((by rw [hg]; exact (below_size (by repeat (first | (with_reducible first | exact HB.out | apply below_alloc | apply pw_below_drewN | apply below_drew1) | exact HB.out))) : w.heap.size ≤ gb101)); clear HB; have HB := n0_; have BK101 := n1_; have GW101 := n2_; have GE101 := n3_; clear n0_ n1_ n2_ n3_; clear hb hbox hg; have hcz9_0 : w8.cell? ⟨gb101, 0, none⟩ = some (.int .i64 a1_0) := (blk_cell BK101.out 0).trans rfl; have hcz9_1 : w8.cell? ⟨gb101, 1, none⟩ = some (.int .i64 a1_1) := (blk_cell BK101.out 1).trans rfl; have hfz9_0 := blk_frozen BK101.out 0; have hfz9_1 := blk_frozen BK101.out 1; have p102 : 0 ≤ (a1_0 : Int) := of_decide_eq_true (by first | (with_reducible assumption) | assumption); have q102 : a1_0 < (l0.length : Int) := of_decide_eq_true (by first | (with_reducible assumption) | assumption); obtain ⟨ad102, A102_6, c102_6, e102, hx102_0, hx102_1, hx102_2, hx102_3, hx102_4, hx102_5, hx102_6, hx102_7, hl102_6, hi102_6⟩ := at_T67 HR0.out a1_0 p102 q102; cases e102; replace hx102_0 := (HB.out.cell (World.block_lt_of_cell? w _ hx102_0)).trans hx102_0; replace hx102_1 := (HB.out.cell (World.block_lt_of_cell? w _ hx102_1)).trans hx102_1; replace hx102_2 := (HB.out.cell (World.block_lt_of_cell? w _ hx102_2)).trans hx102_2; replace hx102_3 := (HB.out.cell (World.block_lt_of_cell? w _ hx102_3)).trans hx102_3; replace hx102_4 := (HB.out.cell (World.block_lt_of_cell? w _ hx102_4)).trans hx102_4; replace hx102_5 := (HB.out.cell (World.block_lt_of_cell? w _ hx102_5)).trans hx102_5; replace hx102_6 := (HB.out.cell (World.block_lt_of_cell? w _ hx102_6)).trans hx102_6; replace hx102_7 := (HB.out.cell (World.block_lt_of_cell? w _ hx102_7)).trans hx102_7; have HR102_6 := Aside0.mk hi102_6; have HC102_6 := Aside0.mk hl102_6; clear hi102_6 hl102_6; replace p102 := eq_true p102; replace q102 := eq_true q102) | ((with_reducible refine gate_dst (N := 8) rfl ?_); (try (refine gate_guard (by rfl) ?_; dsimp only)); refine box_event ?hg (N := 8) ?hd (cs := #[.int .i64 0, .string (⟨#[]⟩ : ByteArray), .string (⟨#[]⟩ : ByteArray), .int .i64 0, .int .i64 0, .string (⟨#[]⟩ : ByteArray), .slice none 0 0, .int .i64 0]) (t := 67) ?hr ?_; (case hd => rfl); (case hg => rfl); (case hr => first | (go_simp; done) | (go_simp; rfl)); intro gb103 hg w10 hbox hb; have n0_ := Aside0.mk (blk_below (g := gb101) (o := .cells #[.int .i64 a1_0, .int .i64 a1_1] 57 (0, 0)) (by (with_reducible repeat (first | refine blk_drewN ?_ _ | refine blk_drew ?_ | refine blk_alloc ?_ _)); exact BK101.out) hb); have n1_ := Aside0.mk (below_step (by repeat (first | (with_reducible first | exact HB.out | apply below_alloc | apply pw_below_drewN | apply below_drew1 | refine below_set ?_ GE101.out) | exact HB.out)) hb); have n2_ := Aside0.mk (hbox); have n3_ := Aside0.mk ((by rw [hg]; exact (below_size (by repeat (first | (with_reducible first | exact HB.out | apply below_alloc | apply pw_below_drewN | apply below_drew1 | refine below_set ?_ GE101.out) | exact HB.out))) : w.heap.size ≤ gb103)); have n4_ := Aside0.mk ((by rw [hg]; exact (below_size (by repeat (first | (with_reducible first | exact HB.out | apply below_alloc | apply pw_below_drewN | apply below_drew1 | refine below_set ?_ GE101.out) | exact HB.out))) : w.heap.size ≤ gb103)); have n5_ := Aside0.mk ((by rw [hg]; exact Nat.ne_of_lt (blk_lt (g := gb101) (o := .cells #[.int .i64 a1_0, .int .i64 a1_1] 57 (0, 0)) (by (with_reducible repeat (first | refine blk_drewN ?_ _ | refine blk_drew ?_ | refine blk_alloc ?_ _)); exact BK101.out)) : gb101 ≠ gb103)); have n6_ := Aside0.mk ((by rw [hg]; exact Nat.ne_of_gt (blk_lt (g := gb101) (o := .cells #[.int .i64 a1_0, .int .i64 a1_1] 57 (0, 0)) (by (with_reducible repeat (first | refine blk_drewN ?_ _ | refine blk_drew ?_ | refine blk_alloc ?_ _)); exact BK101.out)) : gb103 ≠ gb101)); clear BK101; clear HB; have BK101 := n0_; have HB := n1_; have BK103 := n2_; have GW103 := n3_; have GE103 := n4_; have NB101_103 := n5_; have NB103_101 := n6_; clear n0_ n1_ n2_ n3_ n4_ n5_ n6_; clear hb hbox hg; have hnb11 := NB103_101.out; have hnc11 := NB101_103.out; have hcz12_0 : w10.cell? ⟨gb103, 0, none⟩ = some (.int .i64 0) := (blk_cell BK103.out 0).trans rfl; have hcz12_1 : w10.cell? ⟨gb103, 1, none⟩ = some (.string (⟨#[]⟩ : ByteArray)) := (blk_cell BK103.out 1).trans rfl; have hcz12_2 : w10.cell? ⟨gb103, 2, none⟩ = some (.string (⟨#[]⟩ : ByteArray)) := (blk_cell BK103.out 2).trans rfl; have hcz12_3 : w10.cell? ⟨gb103, 3, none⟩ = some (.int .i64 0) := (blk_cell BK103.out 3).trans rfl; have hcz12_4 : w10.cell? ⟨gb103, 4, none⟩ = some (.int .i64 0) := (blk_cell BK103.out 4).trans rfl; have hcz12_5 : w10.cell? ⟨gb103, 5, none⟩ = some (.string (⟨#[]⟩ : ByteArray)) := (blk_cell BK103.out 5).trans rfl; have hcz12_6 : w10.cell? ⟨gb103, 6, none⟩ = some (.slice none 0 0) := (blk_cell BK103.out 6).trans rfl; have hcz12_7 : w10.cell? ⟨gb103, 7, none⟩ = some (.int .i64 0) := (blk_cell BK103.out 7).trans rfl; have hfz12_0 := blk_frozen BK103.out 0; have hfz12_1 := blk_frozen BK103.out 1; have hfz12_2 := blk_frozen BK103.out 2; have hfz12_3 := blk_frozen BK103.out 3; have hfz12_4 := blk_frozen BK103.out 4; have hfz12_5 := blk_frozen BK103.out 5; have hfz12_6 := blk_frozen BK103.out 6; have hfz12_7 := blk_frozen BK103.out 7) | ((with_reducible refine gate_callee (f := 101) rfl ?_); refine goesL_ (some 26) rfl rfl Tryd.func101 (by kernel_rfl) rfl #[.int .i64 ((rd_T67 l0 a1_0).f0)] rfl (by (try simp only [List.map_toArray, List.map_cons, List.map_nil]); first | done | rfl | (simp only [List.length_drop, List.length_take]; rfl)) ?_; (with_reducible refine (prog_uses.calls k ((rd_T67 l0 a1_0).f0) t104 t105 t106 t107 t108 _ A6.out).mono ?_); rintro e w' ⟨rfl, ⟨nd, rfl⟩⟩; refine ⟨_, rfl, ?_⟩))
   (try simp only [Act.put, List.setIfInBounds_toArray, List.set_cons_zero, List.set_cons_succ])
   go_cut [37] (fun v37 wc => ∃ (kq : Nat) (x37_6 : Bool), v37 = .bool x37_6 ∧ Aside0 (prog_step.j0 kq l0 l2 0 x37_6 a1_0 a1_1 ((rd_T67 l0 a1_0).f0) ((rd_T67 l0 a1_0).f1) ((rd_T67 l0 a1_0).f2) ((rd_T67 l0 a1_0).f3.f0) ((rd_T67 l0 a1_0).f3.f1) ((rd_T67 l0 a1_0).f3.f2) ((rd_T67 l0 a1_0).f3.f3) ((rd_T67 l0 a1_0).f4) = some (r1, r2, r3, r4, r5, r6, r7, r8)) ∧ Aside0 (kq ≤ k) ∧ Aside0 (wc.heap[gb101]? = some (.cells #[.int .i64 a1_0, .int .i64 a1_1] 57 (0, 0))) ∧ Aside0 (wc.heap[gb103]? = some (.cells #[.int .i64 ((rd_T67 l0 a1_0).f0), .string ((rd_T67 l0 a1_0).f1), .string ((rd_T67 l0 a1_0).f2), .int .i64 ((rd_T67 l0 a1_0).f3.f0), .int .i64 ((rd_T67 l0 a1_0).f3.f1), .string ((rd_T67 l0 a1_0).f3.f2), (.slice A102_6 ((rd_T67 l0 a1_0).f3.f3).length c102_6), .int .i64 ((rd_T67 l0 a1_0).f4)] 67 (0, 0))) ∧ Aside0 (Below w.heap.size w wc))
   case first =>
    have H := HC7.out
    clear HC7
    by_cases c13 : t106 = true
    ·subst c13
     have H1 : (prog_step.j0 k l0 l2 0 (a1_1 == 0) a1_0 a1_1 ((rd_T67 l0 a1_0).f0) ((rd_T67 l0 a1_0).f1) ((rd_T67 l0 a1_0).f2) ((rd_T67 l0 a1_0).f3.f0) ((rd_T67 l0 a1_0).f3.f1) ((rd_T67 l0 a1_0).f3.f2) ((rd_T67 l0 a1_0).f3.f3) ((rd_T67 l0 a1_0).f4)) = some (r1, r2, r3, r4, r5, r6, r7, r8) := by rw [if_pos rfl] at H; exact H
     clear H
     have H := H1
     clear H1
     have H' := Aside0.mk H
     clear H
     have hnb14 := NB101_103.out
     have hnc14 := NB103_101.out
     have hcz15_0 : w10.cell? ⟨gb101, 0, none⟩ = some (.int .i64 a1_0) := (blk_cell BK101.out 0).trans rfl
     have hcz15_1 : w10.cell? ⟨gb101, 1, none⟩ = some (.int .i64 a1_1) := (blk_cell BK101.out 1).trans rfl
     have hfz15_0 := blk_frozen BK101.out 0
     have hfz15_1 := blk_frozen BK101.out 1
     go_wp2
     go_meet
     case rel => exact ⟨_, ((a1_1 == 0)), (by first | rfl | (simp; done) | (simp [*]; done)), H', ⟨by first | omega | exact Nat.le_refl _⟩, ⟨by (with_reducible repeat (first | refine blk_drewN ?_ _ | refine blk_drew ?_ | refine blk_alloc ?_ _)); refine blk_far ?_ NB101_103.out _; (with_reducible repeat (first | refine blk_drewN ?_ _ | refine blk_drew ?_ | refine blk_alloc ?_ _)); refine blk_far ?_ NB101_103.out _; (with_reducible repeat (first | refine blk_drewN ?_ _ | refine blk_drew ?_ | refine blk_alloc ?_ _)); refine blk_far ?_ NB101_103.out _; (with_reducible repeat (first | refine blk_drewN ?_ _ | refine blk_drew ?_ | refine blk_alloc ?_ _)); refine blk_far ?_ NB101_103.out _; (with_reducible repeat (first | refine blk_drewN ?_ _ | refine blk_drew ?_ | refine blk_alloc ?_ _)); refine blk_far ?_ NB101_103.out _; (with_reducible repeat (first | refine blk_drewN ?_ _ | refine blk_drew ?_ | refine blk_alloc ?_ _)); refine blk_far ?_ NB101_103.out _; (with_reducible repeat (first | refine blk_drewN ?_ _ | refine blk_drew ?_ | refine blk_alloc ?_ _)); refine blk_far ?_ NB101_103.out _; (with_reducible repeat (first | refine blk_drewN ?_ _ | refine blk_drew ?_ | refine blk_alloc ?_ _)); refine blk_far ?_ NB101_103.out _; (with_reducible repeat (first | refine blk_drewN ?_ _ | refine blk_drew ?_ | refine blk_alloc ?_ _)); exact BK101.out⟩, ⟨by (with_reducible repeat (first | refine blk_drewN ?_ _ | refine blk_drew ?_ | refine blk_alloc ?_ _)); refine blk_put (cs := #[.int .i64 ((rd_T67 l0 a1_0).f0), .string ((rd_T67 l0 a1_0).f1), .string ((rd_T67 l0 a1_0).f2), .int .i64 ((rd_T67 l0 a1_0).f3.f0), .int .i64 ((rd_T67 l0 a1_0).f3.f1), .string ((rd_T67 l0 a1_0).f3.f2), .slice A102_6 ((rd_T67 l0 a1_0).f3.f3).length c102_6, .int .i64 0]) ?_ 7 _ rfl; (with_reducible repeat (first | refine blk_drewN ?_ _ | refine blk_drew ?_ | refine blk_alloc ?_ _)); refine blk_put (cs := #[.int .i64 ((rd_T67 l0 a1_0).f0), .string ((rd_T67 l0 a1_0).f1), .string ((rd_T67 l0 a1_0).f2), .int .i64 ((rd_T67 l0 a1_0).f3.f0), .int .i64 ((rd_T67 l0 a1_0).f3.f1), .string ((rd_T67 l0 a1_0).f3.f2), .slice none 0 0, .int .i64 0]) ?_ 6 _ rfl; (with_reducible repeat (first | refine blk_drewN ?_ _ | refine blk_drew ?_ | refine blk_alloc ?_ _)); refine blk_put (cs := #[.int .i64 ((rd_T67 l0 a1_0).f0), .string ((rd_T67 l0 a1_0).f1), .string ((rd_T67 l0 a1_0).f2), .int .i64 ((rd_T67 l0 a1_0).f3.f0), .int .i64 ((rd_T67 l0 a1_0).f3.f1), .string (⟨#[]⟩ : ByteArray), .slice none 0 0, .int .i64 0]) ?_ 5 _ rfl; (with_reducible repeat (first | refine blk_drewN ?_ _ | refine blk_drew ?_ | refine blk_alloc ?_ _)); refine blk_put (cs := #[.int .i64 ((rd_T67 l0 a1_0).f0), .string ((rd_T67 l0 a1_0).f1), .string ((rd_T67 l0 a1_0).f2), .int .i64 ((rd_T67 l0 a1_0).f3.f0), .int .i64 0, .string (⟨#[]⟩ : ByteArray), .slice none 0 0, .int .i64 0]) ?_ 4 _ rfl; (with_reducible repeat (first | refine blk_drewN ?_ _ | refine blk_drew ?_ | refine blk_alloc ?_ _)); refine blk_put (cs := #[.int .i64 ((rd_T67 l0 a1_0).f0), .string ((rd_T67 l0 a1_0).f1), .string ((rd_T67 l0 a1_0).f2), .int .i64 0, .int .i64 0, .string (⟨#[]⟩ : ByteArray), .slice none 0 0, .int .i64 0]) ?_ 3 _ rfl; (with_reducible repeat (first | refine blk_drewN ?_ _ | refine blk_drew ?_ | refine blk_alloc ?_ _)); refine blk_put (cs := #[.int .i64 ((rd_T67 l0 a1_0).f0), .string ((rd_T67 l0 a1_0).f1), .string (⟨#[]⟩ : ByteArray), .int .i64 0, .int .i64 0, .string (⟨#[]⟩ : ByteArray), .slice none 0 0, .int .i64 0]) ?_ 2 _ rfl; (with_reducible repeat (first | refine blk_drewN ?_ _ | refine blk_drew ?_ | refine blk_alloc ?_ _)); refine blk_put (cs := #[.int .i64 ((rd_T67 l0 a1_0).f0), .string (⟨#[]⟩ : ByteArray), .string (⟨#[]⟩ : ByteArray), .int .i64 0, .int .i64 0, .string (⟨#[]⟩ : ByteArray), .slice none 0 0, .int .i64 0]) ?_ 1 _ rfl; (with_reducible repeat (first | refine blk_drewN ?_ _ | refine blk_drew ?_ | refine blk_alloc ?_ _)); refine blk_put (cs := #[.int .i64 0, .string (⟨#[]⟩ : ByteArray), .string (⟨#[]⟩ : ByteArray), .int .i64 0, .int .i64 0, .string (⟨#[]⟩ : ByteArray), .slice none 0 0, .int .i64 0]) ?_ 0 _ rfl; (with_reducible repeat (first | refine blk_drewN ?_ _ | refine blk_drew ?_ | refine blk_alloc ?_ _)); exact BK103.out⟩, ⟨by repeat (first | (with_reducible first | exact HB.out | apply below_alloc | apply pw_below_drewN | apply below_drew1 | refine below_set ?_ GE101.out | refine below_set ?_ GE103.out) | exact HB.out)⟩⟩
    ·replace c13 := Bool.eq_false_iff.mpr c13
     subst c13
     have H1 : (prog_step.j0 k l0 l2 0 false a1_0 a1_1 ((rd_T67 l0 a1_0).f0) ((rd_T67 l0 a1_0).f1) ((rd_T67 l0 a1_0).f2) ((rd_T67 l0 a1_0).f3.f0) ((rd_T67 l0 a1_0).f3.f1) ((rd_T67 l0 a1_0).f3.f2) ((rd_T67 l0 a1_0).f3.f3) ((rd_T67 l0 a1_0).f4)) = some (r1, r2, r3, r4, r5, r6, r7, r8) := by rw [if_neg (show ¬ (false = true) by decide)] at H; exact H
     clear H
     have H := H1
     clear H1
     have H' := Aside0.mk H
     clear H
     go_wp2
     go_meet
     case rel => exact ⟨_, (false), (by first | rfl | (simp; done) | (simp [*]; done)), H', ⟨by first | omega | exact Nat.le_refl _⟩, ⟨by (with_reducible repeat (first | refine blk_drewN ?_ _ | refine blk_drew ?_ | refine blk_alloc ?_ _)); refine blk_far ?_ NB101_103.out _; (with_reducible repeat (first | refine blk_drewN ?_ _ | refine blk_drew ?_ | refine blk_alloc ?_ _)); refine blk_far ?_ NB101_103.out _; (with_reducible repeat (first | refine blk_drewN ?_ _ | refine blk_drew ?_ | refine blk_alloc ?_ _)); refine blk_far ?_ NB101_103.out _; (with_reducible repeat (first | refine blk_drewN ?_ _ | refine blk_drew ?_ | refine blk_alloc ?_ _)); refine blk_far ?_ NB101_103.out _; (with_reducible repeat (first | refine blk_drewN ?_ _ | refine blk_drew ?_ | refine blk_alloc ?_ _)); refine blk_far ?_ NB101_103.out _; (with_reducible repeat (first | refine blk_drewN ?_ _ | refine blk_drew ?_ | refine blk_alloc ?_ _)); refine blk_far ?_ NB101_103.out _; (with_reducible repeat (first | refine blk_drewN ?_ _ | refine blk_drew ?_ | refine blk_alloc ?_ _)); refine blk_far ?_ NB101_103.out _; (with_reducible repeat (first | refine blk_drewN ?_ _ | refine blk_drew ?_ | refine blk_alloc ?_ _)); refine blk_far ?_ NB101_103.out _; (with_reducible repeat (first | refine blk_drewN ?_ _ | refine blk_drew ?_ | refine blk_alloc ?_ _)); exact BK101.out⟩, ⟨by (with_reducible repeat (first | refine blk_drewN ?_ _ | refine blk_drew ?_ | refine blk_alloc ?_ _)); refine blk_put (cs := #[.int .i64 ((rd_T67 l0 a1_0).f0), .string ((rd_T67 l0 a1_0).f1), .string ((rd_T67 l0 a1_0).f2), .int .i64 ((rd_T67 l0 a1_0).f3.f0), .int .i64 ((rd_T67 l0 a1_0).f3.f1), .string ((rd_T67 l0 a1_0).f3.f2), .slice A102_6 ((rd_T67 l0 a1_0).f3.f3).length c102_6, .int .i64 0]) ?_ 7 _ rfl; (with_reducible repeat (first | refine blk_drewN ?_ _ | refine blk_drew ?_ | refine blk_alloc ?_ _)); refine blk_put (cs := #[.int .i64 ((rd_T67 l0 a1_0).f0), .string ((rd_T67 l0 a1_0).f1), .string ((rd_T67 l0 a1_0).f2), .int .i64 ((rd_T67 l0 a1_0).f3.f0), .int .i64 ((rd_T67 l0 a1_0).f3.f1), .string ((rd_T67 l0 a1_0).f3.f2), .slice none 0 0, .int .i64 0]) ?_ 6 _ rfl; (with_reducible repeat (first | refine blk_drewN ?_ _ | refine blk_drew ?_ | refine blk_alloc ?_ _)); refine blk_put (cs := #[.int .i64 ((rd_T67 l0 a1_0).f0), .string ((rd_T67 l0 a1_0).f1), .string ((rd_T67 l0 a1_0).f2), .int .i64 ((rd_T67 l0 a1_0).f3.f0), .int .i64 ((rd_T67 l0 a1_0).f3.f1), .string (⟨#[]⟩ : ByteArray), .slice none 0 0, .int .i64 0]) ?_ 5 _ rfl; (with_reducible repeat (first | refine blk_drewN ?_ _ | refine blk_drew ?_ | refine blk_alloc ?_ _)); refine blk_put (cs := #[.int .i64 ((rd_T67 l0 a1_0).f0), .string ((rd_T67 l0 a1_0).f1), .string ((rd_T67 l0 a1_0).f2), .int .i64 ((rd_T67 l0 a1_0).f3.f0), .int .i64 0, .string (⟨#[]⟩ : ByteArray), .slice none 0 0, .int .i64 0]) ?_ 4 _ rfl; (with_reducible repeat (first | refine blk_drewN ?_ _ | refine blk_drew ?_ | refine blk_alloc ?_ _)); refine blk_put (cs := #[.int .i64 ((rd_T67 l0 a1_0).f0), .string ((rd_T67 l0 a1_0).f1), .string ((rd_T67 l0 a1_0).f2), .int .i64 0, .int .i64 0, .string (⟨#[]⟩ : ByteArray), .slice none 0 0, .int .i64 0]) ?_ 3 _ rfl; (with_reducible repeat (first | refine blk_drewN ?_ _ | refine blk_drew ?_ | refine blk_alloc ?_ _)); refine blk_put (cs := #[.int .i64 ((rd_T67 l0 a1_0).f0), .string ((rd_T67 l0 a1_0).f1), .string (⟨#[]⟩ : ByteArray), .int .i64 0, .int .i64 0, .string (⟨#[]⟩ : ByteArray), .slice none 0 0, .int .i64 0]) ?_ 2 _ rfl; (with_reducible repeat (first | refine blk_drewN ?_ _ | refine blk_drew ?_ | refine blk_alloc ?_ _)); refine blk_put (cs := #[.int .i64 ((rd_T67 l0 a1_0).f0), .string (⟨#[]⟩ : ByteArray), .string (⟨#[]⟩ : ByteArray), .int .i64 0, .int .i64 0, .string (⟨#[]⟩ : ByteArray), .slice none 0 0, .int .i64 0]) ?_ 1 _ rfl; (with_reducible repeat (first | refine blk_drewN ?_ _ | refine blk_drew ?_ | refine blk_alloc ?_ _)); refine blk_put (cs := #[.int .i64 0, .string (⟨#[]⟩ : ByteArray), .string (⟨#[]⟩ : ByteArray), .int .i64 0, .int .i64 0, .string (⟨#[]⟩ : ByteArray), .slice none 0 0, .int .i64 0]) ?_ 0 _ rfl; (with_reducible repeat (first | refine blk_drewN ?_ _ | refine blk_drew ?_ | refine blk_alloc ?_ _)); exact BK103.out⟩, ⟨by repeat (first | (with_reducible first | exact HB.out | apply below_alloc | apply pw_below_drewN | apply below_drew1 | refine below_set ?_ GE101.out | refine below_set ?_ GE103.out) | exact HB.out)⟩⟩
   case rest =>
    clear HC7
    try clear c1
    try clear p1
    try clear q1
    try clear hx1
    try clear c2
    try clear p2
    try clear c4
    try clear c4b0
    try clear c5
    try clear c5b0
    try clear c7
    try clear c10
    try clear p10
    try clear q10
    try clear hx10
    try clear c11
    try clear c13
    try clear c14
    try clear hcz12_0
    try clear hcz12_1
    try clear hcz12_2
    try clear hcz12_3
    try clear hcz12_4
    try clear hcz12_5
    try clear hcz12_6
    try clear hcz12_7
    try clear hcz15_0
    try clear hcz15_1
    try clear hcz9_0
    try clear hcz9_1
    try clear hfz12_0
    try clear hfz12_1
    try clear hfz12_2
    try clear hfz12_3
    try clear hfz12_4
    try clear hfz12_5
    try clear hfz12_6
    try clear hfz12_7
    try clear hfz15_0
    try clear hfz15_1
    try clear hfz9_0
    try clear hfz9_1
    try clear hx102_0
    try clear hx102_1
    try clear hx102_2
    try clear hx102_3
    try clear hx102_4
    try clear hx102_5
    try clear hx102_6
    try clear hx102_7
    try clear p102
    try clear q102
    obtain ⟨kq, x37_6, rfl, HA, HJ6, BK101, BK103, HB⟩ := hcut
    cases kq with
    | zero => exact absurd HA.out (by simp [prog_step.j0])
    | succ kj6 =>
     have H := HA.out
     clear HA
     simp only [prog_step.j0] at H
     have HC16 := Aside0.mk H
     clear H
     go_upto_if 37 with (fail)
     go_cut [14] (fun v14 wc => ∃ (kq : Nat) (x14_15 : Int), v14 = .int .i64 x14_15 ∧ Aside0 (prog_step.j1 kq l0 x14_15 a1_0 a1_1 ((rd_T67 l0 a1_0).f0) ((rd_T67 l0 a1_0).f1) ((rd_T67 l0 a1_0).f2) ((rd_T67 l0 a1_0).f3.f0) ((rd_T67 l0 a1_0).f3.f1) ((rd_T67 l0 a1_0).f3.f2) ((rd_T67 l0 a1_0).f3.f3) ((rd_T67 l0 a1_0).f4) = some (r1, r2, r3, r4, r5, r6, r7, r8)) ∧ Aside0 (kq ≤ kj6) ∧ Aside0 (wc.heap[gb101]? = some (.cells #[.int .i64 a1_0, .int .i64 a1_1] 57 (0, 0))) ∧ Aside0 (wc.heap[gb103]? = some (.cells #[.int .i64 ((rd_T67 l0 a1_0).f0), .string ((rd_T67 l0 a1_0).f1), .string ((rd_T67 l0 a1_0).f2), .int .i64 ((rd_T67 l0 a1_0).f3.f0), .int .i64 ((rd_T67 l0 a1_0).f3.f1), .string ((rd_T67 l0 a1_0).f3.f2), (.slice A102_6 ((rd_T67 l0 a1_0).f3.f3).length c102_6), .int .i64 ((rd_T67 l0 a1_0).f4)] 67 (0, 0))) ∧ Aside0 (Below w.heap.size w wc))
     case first =>
      have H := HC16.out
      clear HC16
      by_cases c17 : x37_6 = true
      ·subst c17
       have H1 : ((expr_Eval.f kj6 ((rd_T67 l0 a1_0).f3.f0) ((rd_T67 l0 a1_0).f3.f1) ((rd_T67 l0 a1_0).f3.f2) ((rd_T67 l0 a1_0).f3.f3) l2).bind fun bt109 => (if bt109.2 = 0 then (prog_step.j1 kj6 l0 bt109.1 a1_0 a1_1 ((rd_T67 l0 a1_0).f0) ((rd_T67 l0 a1_0).f1) ((rd_T67 l0 a1_0).f2) ((rd_T67 l0 a1_0).f3.f0) ((rd_T67 l0 a1_0).f3.f1) ((rd_T67 l0 a1_0).f3.f2) ((rd_T67 l0 a1_0).f3.f3) ((rd_T67 l0 a1_0).f4)) else (some (0, 0, 0, (⟨#[]⟩ : ByteArray), (⟨#[]⟩ : ByteArray), 0, 0, bt109.2)))) = some (r1, r2, r3, r4, r5, r6, r7, r8) := by rw [if_pos rfl] at H; exact H
       clear H
       have H := H1
       clear H1
       replace H := Option.bind_eq_some_iff.mp H
       obtain ⟨⟨t109, t110⟩, A180, H⟩ := H
       replace H : (if t110 = 0 then (prog_step.j1 kj6 l0 t109 a1_0 a1_1 ((rd_T67 l0 a1_0).f0) ((rd_T67 l0 a1_0).f1) ((rd_T67 l0 a1_0).f2) ((rd_T67 l0 a1_0).f3.f0) ((rd_T67 l0 a1_0).f3.f1) ((rd_T67 l0 a1_0).f3.f2) ((rd_T67 l0 a1_0).f3.f3) ((rd_T67 l0 a1_0).f4)) else (some (0, 0, 0, (⟨#[]⟩ : ByteArray), (⟨#[]⟩ : ByteArray), 0, 0, t110))) = some (r1, r2, r3, r4, r5, r6, r7, r8) := H
       have A18 := Aside0.mk A180
       clear A180
       by_cases c19 : t110 = 0
       ·rw [if_pos c19] at H
        have c19b0 : (t110 == 0) = true := beq_iff_eq.mpr c19
        have c19b1 : (t110 != 0) = false := bne_eq_false_iff_eq.mpr c19
        clear c19
        (first | rw [c19b0] | (simp only [i64_w, i32_w]; rw [c19b0]) | skip)
        have H' := Aside0.mk H
        clear H
        have hnb20 := NB103_101.out
        have hnc20 := NB101_103.out
        have hcz21_0 : wc.cell? ⟨gb103, 0, none⟩ = some (.int .i64 ((rd_T67 l0 a1_0).f0)) := (blk_cell BK103.out 0).trans rfl
        have hcz21_1 : wc.cell? ⟨gb103, 1, none⟩ = some (.string ((rd_T67 l0 a1_0).f1)) := (blk_cell BK103.out 1).trans rfl
        have hcz21_2 : wc.cell? ⟨gb103, 2, none⟩ = some (.string ((rd_T67 l0 a1_0).f2)) := (blk_cell BK103.out 2).trans rfl
        have hcz21_3 : wc.cell? ⟨gb103, 3, none⟩ = some (.int .i64 ((rd_T67 l0 a1_0).f3.f0)) := (blk_cell BK103.out 3).trans rfl
        have hcz21_4 : wc.cell? ⟨gb103, 4, none⟩ = some (.int .i64 ((rd_T67 l0 a1_0).f3.f1)) := (blk_cell BK103.out 4).trans rfl
        have hcz21_5 : wc.cell? ⟨gb103, 5, none⟩ = some (.string ((rd_T67 l0 a1_0).f3.f2)) := (blk_cell BK103.out 5).trans rfl
        have hcz21_6 : wc.cell? ⟨gb103, 6, none⟩ = some (.slice A102_6 ((rd_T67 l0 a1_0).f3.f3).length c102_6) := (blk_cell BK103.out 6).trans rfl
        have hcz21_7 : wc.cell? ⟨gb103, 7, none⟩ = some (.int .i64 ((rd_T67 l0 a1_0).f4)) := (blk_cell BK103.out 7).trans rfl
        have hfz21_0 := blk_frozen BK103.out 0
        have hfz21_1 := blk_frozen BK103.out 1
        have hfz21_2 := blk_frozen BK103.out 2
        have hfz21_3 := blk_frozen BK103.out 3
        have hfz21_4 := blk_frozen BK103.out 4
        have hfz21_5 := blk_frozen BK103.out 5
        have hfz21_6 := blk_frozen BK103.out 6
        have hfz21_7 := blk_frozen BK103.out 7
        go_wp2_with (first | ((with_reducible refine gate_callee (f := 30) rfl ?_); refine goesL_ (some 42) rfl rfl Tryd.func30 (by kernel_rfl) rfl #[.agg #[.int .i64 ((rd_T67 l0 a1_0).f3.f0), .int .i64 ((rd_T67 l0 a1_0).f3.f1), .string ((rd_T67 l0 a1_0).f3.f2), .slice A102_6 ((rd_T67 l0 a1_0).f3.f3).length c102_6], .slice A2 l2.length c2] rfl (by (try simp only [List.map_toArray, List.map_cons, List.map_nil]); first | done | rfl | (simp only [List.length_drop, List.length_take]; rfl)) ?_; (with_reducible refine (expr_Eval.calls kj6 ((rd_T67 l0 a1_0).f3.f0) ((rd_T67 l0 a1_0).f3.f1) ((rd_T67 l0 a1_0).f3.f2) _ _ ((rd_T67 l0 a1_0).f3.f3) _ _ l2 t109 t110 _ ?side1 ?side2 ?side3 ?side4 A18.out (by first | exact HT0.out | exact UT.below HT0.out (by repeat (first | (with_reducible first | exact HB.out | apply below_alloc | apply pw_below_drewN | apply below_drew1 | refine below_set ?_ GE101.out | refine below_set ?_ GE103.out) | exact HB.out)))).mono ?_); (case side1 => repeat (first | exact (Kd.C_below HR102_6.out HB.out) | (with_reducible refine Kd.C_alloc ?_ _) | (with_reducible refine Kd.C_drewN ?_ _) | (with_reducible refine Kd.C_drew ?_))); (case side2 => exact HC102_6.out); (case side3 => repeat (first | exact (Kd.C_below HR2.out HB.out) | (with_reducible refine Kd.C_alloc ?_ _) | (with_reducible refine Kd.C_drewN ?_ _) | (with_reducible refine Kd.C_drew ?_))); (case side4 => exact HC2.out); rintro e w22 ⟨rfl, hb⟩; refine ⟨_, rfl, ?_⟩; have n0_ := Aside0.mk (blk_below (g := gb101) (o := .cells #[.int .i64 a1_0, .int .i64 a1_1] 57 (0, 0)) (by (with_reducible repeat (first | refine blk_drewN ?_ _ | refine blk_drew ?_ | refine blk_alloc ?_ _)); exact BK101.out) hb); have n1_ := Aside0.mk (blk_below (g := gb103) (o := .cells #[.int .i64 ((rd_T67 l0 a1_0).f0), .string ((rd_T67 l0 a1_0).f1), .string ((rd_T67 l0 a1_0).f2), .int .i64 ((rd_T67 l0 a1_0).f3.f0), .int .i64 ((rd_T67 l0 a1_0).f3.f1), .string ((rd_T67 l0 a1_0).f3.f2), .slice A102_6 ((rd_T67 l0 a1_0).f3.f3).length c102_6, .int .i64 ((rd_T67 l0 a1_0).f4)] 67 (0, 0)) (by (with_reducible repeat (first | refine blk_drewN ?_ _ | refine blk_drew ?_ | refine blk_alloc ?_ _)); exact BK103.out) hb); have n2_ := Aside0.mk (below_step (by repeat (first | (with_reducible first | exact HB.out | apply below_alloc | apply pw_below_drewN | apply below_drew1 | refine below_set ?_ GE101.out | refine below_set ?_ GE103.out) | exact HB.out)) hb); clear BK101; clear BK103; clear HB; have BK101 := n0_; have BK103 := n1_; have HB := n2_; clear n0_ n1_ n2_; (try clear hb); (try clear hb2); (try clear hk); (try clear hi)))
        go_meet
        case rel => exact ⟨_, (t109), (by first | rfl | (simp; done) | (simp [*]; done)), H', ⟨by have := HJ6.out; first | omega | exact Nat.le_refl _⟩, ⟨by (with_reducible repeat (first | refine blk_drewN ?_ _ | refine blk_drew ?_ | refine blk_alloc ?_ _)); exact BK101.out⟩, ⟨by (with_reducible repeat (first | refine blk_drewN ?_ _ | refine blk_drew ?_ | refine blk_alloc ?_ _)); exact BK103.out⟩, ⟨by repeat (first | (with_reducible first | exact HB.out | apply below_alloc | apply pw_below_drewN | apply below_drew1 | refine below_set ?_ GE101.out | refine below_set ?_ GE103.out) | exact HB.out)⟩⟩
       ·rw [if_neg c19] at H
        have c19b0 : (t110 == 0) = false := beq_eq_false_iff_ne.mpr c19
        have c19b1 : (t110 != 0) = true := bne_iff_ne.mpr c19
        (first | rw [c19b0] | (simp only [i64_w, i32_w]; rw [c19b0]) | skip)
        simp only [Option.some.injEq, Prod.mk.injEq] at H
        obtain ⟨rfl, rfl, rfl, rfl, rfl, rfl, rfl, rfl⟩ := H
        have hnb23 := NB103_101.out
        have hnc23 := NB101_103.out
        have hcz24_0 : wc.cell? ⟨gb103, 0, none⟩ = some (.int .i64 ((rd_T67 l0 a1_0).f0)) := (blk_cell BK103.out 0).trans rfl
        have hcz24_1 : wc.cell? ⟨gb103, 1, none⟩ = some (.string ((rd_T67 l0 a1_0).f1)) := (blk_cell BK103.out 1).trans rfl
        have hcz24_2 : wc.cell? ⟨gb103, 2, none⟩ = some (.string ((rd_T67 l0 a1_0).f2)) := (blk_cell BK103.out 2).trans rfl
        have hcz24_3 : wc.cell? ⟨gb103, 3, none⟩ = some (.int .i64 ((rd_T67 l0 a1_0).f3.f0)) := (blk_cell BK103.out 3).trans rfl
        have hcz24_4 : wc.cell? ⟨gb103, 4, none⟩ = some (.int .i64 ((rd_T67 l0 a1_0).f3.f1)) := (blk_cell BK103.out 4).trans rfl
        have hcz24_5 : wc.cell? ⟨gb103, 5, none⟩ = some (.string ((rd_T67 l0 a1_0).f3.f2)) := (blk_cell BK103.out 5).trans rfl
        have hcz24_6 : wc.cell? ⟨gb103, 6, none⟩ = some (.slice A102_6 ((rd_T67 l0 a1_0).f3.f3).length c102_6) := (blk_cell BK103.out 6).trans rfl
        have hcz24_7 : wc.cell? ⟨gb103, 7, none⟩ = some (.int .i64 ((rd_T67 l0 a1_0).f4)) := (blk_cell BK103.out 7).trans rfl
        have hfz24_0 := blk_frozen BK103.out 0
        have hfz24_1 := blk_frozen BK103.out 1
        have hfz24_2 := blk_frozen BK103.out 2
        have hfz24_3 := blk_frozen BK103.out 3
        have hfz24_4 := blk_frozen BK103.out 4
        have hfz24_5 := blk_frozen BK103.out 5
        have hfz24_6 := blk_frozen BK103.out 6
        have hfz24_7 := blk_frozen BK103.out 7
        go_wp2_with (first | ((with_reducible refine gate_callee (f := 30) rfl ?_); refine goesL_ (some 42) rfl rfl Tryd.func30 (by kernel_rfl) rfl #[.agg #[.int .i64 ((rd_T67 l0 a1_0).f3.f0), .int .i64 ((rd_T67 l0 a1_0).f3.f1), .string ((rd_T67 l0 a1_0).f3.f2), .slice A102_6 ((rd_T67 l0 a1_0).f3.f3).length c102_6], .slice A2 l2.length c2] rfl (by (try simp only [List.map_toArray, List.map_cons, List.map_nil]); first | done | rfl | (simp only [List.length_drop, List.length_take]; rfl)) ?_; (with_reducible refine (expr_Eval.calls kj6 ((rd_T67 l0 a1_0).f3.f0) ((rd_T67 l0 a1_0).f3.f1) ((rd_T67 l0 a1_0).f3.f2) _ _ ((rd_T67 l0 a1_0).f3.f3) _ _ l2 t109 t110 _ ?side1 ?side2 ?side3 ?side4 A18.out (by first | exact HT0.out | exact UT.below HT0.out (by repeat (first | (with_reducible first | exact HB.out | apply below_alloc | apply pw_below_drewN | apply below_drew1 | refine below_set ?_ GE101.out | refine below_set ?_ GE103.out) | exact HB.out)))).mono ?_); (case side1 => repeat (first | exact (Kd.C_below HR102_6.out HB.out) | (with_reducible refine Kd.C_alloc ?_ _) | (with_reducible refine Kd.C_drewN ?_ _) | (with_reducible refine Kd.C_drew ?_))); (case side2 => exact HC102_6.out); (case side3 => repeat (first | exact (Kd.C_below HR2.out HB.out) | (with_reducible refine Kd.C_alloc ?_ _) | (with_reducible refine Kd.C_drewN ?_ _) | (with_reducible refine Kd.C_drew ?_))); (case side4 => exact HC2.out); rintro e w25 ⟨rfl, hb⟩; refine ⟨_, rfl, ?_⟩; have n0_ := Aside0.mk (blk_below (g := gb101) (o := .cells #[.int .i64 a1_0, .int .i64 a1_1] 57 (0, 0)) (by (with_reducible repeat (first | refine blk_drewN ?_ _ | refine blk_drew ?_ | refine blk_alloc ?_ _)); exact BK101.out) hb); have n1_ := Aside0.mk (blk_below (g := gb103) (o := .cells #[.int .i64 ((rd_T67 l0 a1_0).f0), .string ((rd_T67 l0 a1_0).f1), .string ((rd_T67 l0 a1_0).f2), .int .i64 ((rd_T67 l0 a1_0).f3.f0), .int .i64 ((rd_T67 l0 a1_0).f3.f1), .string ((rd_T67 l0 a1_0).f3.f2), .slice A102_6 ((rd_T67 l0 a1_0).f3.f3).length c102_6, .int .i64 ((rd_T67 l0 a1_0).f4)] 67 (0, 0)) (by (with_reducible repeat (first | refine blk_drewN ?_ _ | refine blk_drew ?_ | refine blk_alloc ?_ _)); exact BK103.out) hb); have n2_ := Aside0.mk (below_step (by repeat (first | (with_reducible first | exact HB.out | apply below_alloc | apply pw_below_drewN | apply below_drew1 | refine below_set ?_ GE101.out | refine below_set ?_ GE103.out) | exact HB.out)) hb); clear BK101; clear BK103; clear HB; have BK101 := n0_; have BK103 := n1_; have HB := n2_; clear n0_ n1_ n2_; (try clear hb); (try clear hb2); (try clear hk); (try clear hi)))
        go_ret2
        exact ⟨by first | rfl | (simp [errW_none, errW_some] <;> rfl) | (simp [*, errW_none, errW_some] <;> rfl), by repeat (first | (with_reducible first | exact HB.out | apply below_alloc | apply pw_below_drewN | apply below_drew1 | refine below_set ?_ GE101.out | refine below_set ?_ GE103.out) | exact HB.out)⟩
      ·replace c17 := Bool.eq_false_iff.mpr c17
       subst c17
       have H1 : (prog_step.j1 kj6 l0 0 a1_0 a1_1 ((rd_T67 l0 a1_0).f0) ((rd_T67 l0 a1_0).f1) ((rd_T67 l0 a1_0).f2) ((rd_T67 l0 a1_0).f3.f0) ((rd_T67 l0 a1_0).f3.f1) ((rd_T67 l0 a1_0).f3.f2) ((rd_T67 l0 a1_0).f3.f3) ((rd_T67 l0 a1_0).f4)) = some (r1, r2, r3, r4, r5, r6, r7, r8) := by rw [if_neg (show ¬ (false = true) by decide)] at H; exact H
       clear H
       have H := H1
       clear H1
       have H' := Aside0.mk H
       clear H
       go_wp2
       go_meet
       case rel => exact ⟨_, (0), (by first | rfl | (simp; done) | (simp [*]; done)), H', ⟨by have := HJ6.out; first | omega | exact Nat.le_refl _⟩, ⟨by (with_reducible repeat (first | refine blk_drewN ?_ _ | refine blk_drew ?_ | refine blk_alloc ?_ _)); exact BK101.out⟩, ⟨by (with_reducible repeat (first | refine blk_drewN ?_ _ | refine blk_drew ?_ | refine blk_alloc ?_ _)); exact BK103.out⟩, ⟨by repeat (first | (with_reducible first | exact HB.out | apply below_alloc | apply pw_below_drewN | apply below_drew1 | refine below_set ?_ GE101.out | refine below_set ?_ GE103.out) | exact HB.out)⟩⟩
     case rest =>
      clear HC16
      try clear c1
      try clear p1
      try clear q1
      try clear hx1
      try clear c2
      try clear p2
      try clear c3
      try clear c4
      try clear c4b0
      try clear c5
      try clear c5b0
      try clear c7
      try clear c10
      try clear p10
      try clear q10
      try clear hx10
      try clear c11
      try clear c13
      try clear c14
      try clear c17
      try clear c19
      try clear c19b0
      try clear c19b1
      try clear c20
      try clear c23
      try clear hcz12_0
      try clear hcz12_1
      try clear hcz12_2
      try clear hcz12_3
      try clear hcz12_4
      try clear hcz12_5
      try clear hcz12_6
      try clear hcz12_7
      try clear hcz15_0
      try clear hcz15_1
      try clear hcz21_0
      try clear hcz21_1
      try clear hcz21_2
      try clear hcz21_3
      try clear hcz21_4
      try clear hcz21_5
      try clear hcz21_6
      try clear hcz21_7
      try clear hcz24_0
      try clear hcz24_1
      try clear hcz24_2
      try clear hcz24_3
      try clear hcz24_4
      try clear hcz24_5
      try clear hcz24_6
      try clear hcz24_7
      try clear hcz9_0
      try clear hcz9_1
      try clear hfz12_0
      try clear hfz12_1
      try clear hfz12_2
      try clear hfz12_3
      try clear hfz12_4
      try clear hfz12_5
      try clear hfz12_6
      try clear hfz12_7
      try clear hfz15_0
      try clear hfz15_1
      try clear hfz21_0
      try clear hfz21_1
      try clear hfz21_2
      try clear hfz21_3
      try clear hfz21_4
      try clear hfz21_5
      try clear hfz21_6
      try clear hfz21_7
      try clear hfz24_0
      try clear hfz24_1
      try clear hfz24_2
      try clear hfz24_3
      try clear hfz24_4
      try clear hfz24_5
      try clear hfz24_6
      try clear hfz24_7
      try clear hfz9_0
      try clear hfz9_1
      try clear hx102_0
      try clear hx102_1
      try clear hx102_2
      try clear hx102_3
      try clear hx102_4
      try clear hx102_5
      try clear hx102_6
      try clear hx102_7
      try clear p1
      try clear p10
      try clear p102
      try clear p2
      try clear q1
      try clear q10
      try clear q102
      obtain ⟨kq, x14_15, rfl, HA, HJ15, BK101, BK103, HB⟩ := hcut
      cases kq with
      | zero => exact absurd HA.out (by simp [prog_step.j1])
      | succ kj15 =>
       have H := HA.out
       clear HA
       simp only [prog_step.j1] at H
       have HC26 := Aside0.mk H
       clear H
       have hnb27 := NB101_103.out
       have hnc27 := NB103_101.out
       have hcz28_0 : wc.cell? ⟨gb101, 0, none⟩ = some (.int .i64 a1_0) := (blk_cell BK101.out 0).trans rfl
       have hcz28_1 : wc.cell? ⟨gb101, 1, none⟩ = some (.int .i64 a1_1) := (blk_cell BK101.out 1).trans rfl
       have hfz28_0 := blk_frozen BK101.out 0
       have hfz28_1 := blk_frozen BK101.out 1
       go_upto_if 55 with (first | ((with_reducible refine gate_dst (N := 17) rfl ?_); (try (refine gate_guard (by rfl) ?_; dsimp only)); refine box_event ?hg (N := 17) ?hd (cs := #[.int .i64 0, .int .i64 0]) (t := 114) ?hr ?_; (case hd => rfl); (case hg => rfl); (case hr => first | (go_simp; done) | (go_simp; rfl)); intro gb111 hg w29 hbox hb; have n0_ := Aside0.mk (blk_below (g := gb101) (o := .cells #[.int .i64 a1_0, .int .i64 a1_1] 57 (0, 0)) (by (with_reducible repeat (first | refine blk_drewN ?_ _ | refine blk_drew ?_ | refine blk_alloc ?_ _)); exact BK101.out) hb); have n1_ := Aside0.mk (blk_below (g := gb103) (o := .cells #[.int .i64 ((rd_T67 l0 a1_0).f0), .string ((rd_T67 l0 a1_0).f1), .string ((rd_T67 l0 a1_0).f2), .int .i64 ((rd_T67 l0 a1_0).f3.f0), .int .i64 ((rd_T67 l0 a1_0).f3.f1), .string ((rd_T67 l0 a1_0).f3.f2), .slice A102_6 ((rd_T67 l0 a1_0).f3.f3).length c102_6, .int .i64 ((rd_T67 l0 a1_0).f4)] 67 (0, 0)) (by (with_reducible repeat (first | refine blk_drewN ?_ _ | refine blk_drew ?_ | refine blk_alloc ?_ _)); exact BK103.out) hb); have n2_ := Aside0.mk (below_step (by repeat (first | (with_reducible first | exact HB.out | apply below_alloc | apply pw_below_drewN | apply below_drew1 | refine below_set ?_ GE101.out | refine below_set ?_ GE103.out) | exact HB.out)) hb); have n3_ := Aside0.mk (hbox); have n4_ := Aside0.mk ((by rw [hg]; exact (below_size (by repeat (first | (with_reducible first | exact HB.out | apply below_alloc | apply pw_below_drewN | apply below_drew1 | refine below_set ?_ GE101.out | refine below_set ?_ GE103.out) | exact HB.out))) : w.heap.size ≤ gb111)); have n5_ := Aside0.mk ((by rw [hg]; exact (below_size (by repeat (first | (with_reducible first | exact HB.out | apply below_alloc | apply pw_below_drewN | apply below_drew1 | refine below_set ?_ GE101.out | refine below_set ?_ GE103.out) | exact HB.out))) : w.heap.size ≤ gb111)); have n6_ := Aside0.mk ((by rw [hg]; exact Nat.ne_of_lt (blk_lt (g := gb101) (o := .cells #[.int .i64 a1_0, .int .i64 a1_1] 57 (0, 0)) (by (with_reducible repeat (first | refine blk_drewN ?_ _ | refine blk_drew ?_ | refine blk_alloc ?_ _)); exact BK101.out)) : gb101 ≠ gb111)); have n7_ := Aside0.mk ((by rw [hg]; exact Nat.ne_of_gt (blk_lt (g := gb101) (o := .cells #[.int .i64 a1_0, .int .i64 a1_1] 57 (0, 0)) (by (with_reducible repeat (first | refine blk_drewN ?_ _ | refine blk_drew ?_ | refine blk_alloc ?_ _)); exact BK101.out)) : gb111 ≠ gb101)); have n8_ := Aside0.mk ((by rw [hg]; exact Nat.ne_of_lt (blk_lt (g := gb103) (o := .cells #[.int .i64 ((rd_T67 l0 a1_0).f0), .string ((rd_T67 l0 a1_0).f1), .string ((rd_T67 l0 a1_0).f2), .int .i64 ((rd_T67 l0 a1_0).f3.f0), .int .i64 ((rd_T67 l0 a1_0).f3.f1), .string ((rd_T67 l0 a1_0).f3.f2), .slice A102_6 ((rd_T67 l0 a1_0).f3.f3).length c102_6, .int .i64 ((rd_T67 l0 a1_0).f4)] 67 (0, 0)) (by (with_reducible repeat (first | refine blk_drewN ?_ _ | refine blk_drew ?_ | refine blk_alloc ?_ _)); exact BK103.out)) : gb103 ≠ gb111)); have n9_ := Aside0.mk ((by rw [hg]; exact Nat.ne_of_gt (blk_lt (g := gb103) (o := .cells #[.int .i64 ((rd_T67 l0 a1_0).f0), .string ((rd_T67 l0 a1_0).f1), .string ((rd_T67 l0 a1_0).f2), .int .i64 ((rd_T67 l0 a1_0).f3.f0), .int .i64 ((rd_T67 l0 a1_0).f3.f1), .string ((rd_T67 l0 a1_0).f3.f2), .slice A102_6 ((rd_T67 l0 a1_0).f3.f3).length c102_6, .int .i64 ((rd_T67 l0 a1_0).f4)] 67 (0, 0)) (by (with_reducible repeat (first | refine blk_drewN ?_ _ | refine blk_drew ?_ | refine blk_alloc ?_ _)); exact BK103.out)) : gb111 ≠ gb103)); clear BK101; clear BK103; clear HB; have BK101 := n0_; have BK103 := n1_; have HB := n2_; have BK111 := n3_; have GW111 := n4_; have GE111 := n5_; have NB101_111 := n6_; have NB111_101 := n7_; have NB103_111 := n8_; have NB111_103 := n9_; clear n0_ n1_ n2_ n3_ n4_ n5_ n6_ n7_ n8_ n9_; clear hb hbox hg; have hnb30 := NB111_101.out; have hnc30 := NB101_111.out; have hnb31 := NB111_103.out; have hnc31 := NB103_111.out; have hcz32_0 : w29.cell? ⟨gb111, 0, none⟩ = some (.int .i64 0) := (blk_cell BK111.out 0).trans rfl; have hcz32_1 : w29.cell? ⟨gb111, 1, none⟩ = some (.int .i64 0) := (blk_cell BK111.out 1).trans rfl; have hfz32_0 := blk_frozen BK111.out 0; have hfz32_1 := blk_frozen BK111.out 1; have hcz33_0 : w29.cell? ⟨gb103, 0, none⟩ = some (.int .i64 ((rd_T67 l0 a1_0).f0)) := (blk_cell BK103.out 0).trans rfl; have hcz33_1 : w29.cell? ⟨gb103, 1, none⟩ = some (.string ((rd_T67 l0 a1_0).f1)) := (blk_cell BK103.out 1).trans rfl; have hcz33_2 : w29.cell? ⟨gb103, 2, none⟩ = some (.string ((rd_T67 l0 a1_0).f2)) := (blk_cell BK103.out 2).trans rfl; have hcz33_3 : w29.cell? ⟨gb103, 3, none⟩ = some (.int .i64 ((rd_T67 l0 a1_0).f3.f0)) := (blk_cell BK103.out 3).trans rfl; have hcz33_4 : w29.cell? ⟨gb103, 4, none⟩ = some (.int .i64 ((rd_T67 l0 a1_0).f3.f1)) := (blk_cell BK103.out 4).trans rfl; have hcz33_5 : w29.cell? ⟨gb103, 5, none⟩ = some (.string ((rd_T67 l0 a1_0).f3.f2)) := (blk_cell BK103.out 5).trans rfl; have hcz33_6 : w29.cell? ⟨gb103, 6, none⟩ = some (.slice A102_6 ((rd_T67 l0 a1_0).f3.f3).length c102_6) := (blk_cell BK103.out 6).trans rfl; have hcz33_7 : w29.cell? ⟨gb103, 7, none⟩ = some (.int .i64 ((rd_T67 l0 a1_0).f4)) := (blk_cell BK103.out 7).trans rfl; have hfz33_0 := blk_frozen BK103.out 0; have hfz33_1 := blk_frozen BK103.out 1; have hfz33_2 := blk_frozen BK103.out 2; have hfz33_3 := blk_frozen BK103.out 3; have hfz33_4 := blk_frozen BK103.out 4; have hfz33_5 := blk_frozen BK103.out 5; have hfz33_6 := blk_frozen BK103.out 6; have hfz33_7 := blk_frozen BK103.out 7))
       (try simp only [Act.put, List.setIfInBounds_toArray, List.set_cons_zero, List.set_cons_succ])
       go_cut [55] (fun v55 wc => ∃ (kq : Nat) (x55_25 : Bool), v55 = .bool x55_25 ∧ Aside0 (prog_step.j2 kq l0 x14_15 ((rd_T67 l0 a1_0).f0) x55_25 a1_0 a1_1 ((rd_T67 l0 a1_0).f0) ((rd_T67 l0 a1_0).f1) ((rd_T67 l0 a1_0).f2) ((rd_T67 l0 a1_0).f3.f0) ((rd_T67 l0 a1_0).f3.f1) ((rd_T67 l0 a1_0).f3.f2) ((rd_T67 l0 a1_0).f3.f3) ((rd_T67 l0 a1_0).f4) (wrap64 (a1_0 + 1)) 0 = some (r1, r2, r3, r4, r5, r6, r7, r8)) ∧ Aside0 (kq ≤ kj15) ∧ Aside0 (wc.heap[gb101]? = some (.cells #[.int .i64 a1_0, .int .i64 a1_1] 57 (0, 0))) ∧ Aside0 (wc.heap[gb103]? = some (.cells #[.int .i64 ((rd_T67 l0 a1_0).f0), .string ((rd_T67 l0 a1_0).f1), .string ((rd_T67 l0 a1_0).f2), .int .i64 ((rd_T67 l0 a1_0).f3.f0), .int .i64 ((rd_T67 l0 a1_0).f3.f1), .string ((rd_T67 l0 a1_0).f3.f2), (.slice A102_6 ((rd_T67 l0 a1_0).f3.f3).length c102_6), .int .i64 ((rd_T67 l0 a1_0).f4)] 67 (0, 0))) ∧ Aside0 (wc.heap[gb111]? = some (.cells #[.int .i64 (wrap64 (a1_0 + 1)), .int .i64 0] 114 (0, 0))) ∧ Aside0 (Below w.heap.size w wc))
       case first =>
        have H := HC26.out
        clear HC26
        by_cases c34 : ((rd_T67 l0 a1_0).f0) = 0
        ·rw [if_pos c34] at H
         have c34b0 : (((rd_T67 l0 a1_0).f0) == 0) = true := beq_iff_eq.mpr c34
         have c34b1 : (((rd_T67 l0 a1_0).f0) != 0) = false := bne_eq_false_iff_eq.mpr c34
         clear c34
         (first | rw [c34b0] | (simp only [i64_w, i32_w]; rw [c34b0]) | skip)
         have H' := Aside0.mk H
         clear H
         go_wp2
         go_meet
         case rel => exact ⟨_, ((((rd_T67 l0 a1_0).f0) == 0)), (by first | rfl | (simp; done) | (simp [*]; done)), H', ⟨by have := HJ6.out; have := HJ15.out; first | omega | exact Nat.le_refl _⟩, ⟨by (with_reducible repeat (first | refine blk_drewN ?_ _ | refine blk_drew ?_ | refine blk_alloc ?_ _)); refine blk_far ?_ NB101_111.out _; (with_reducible repeat (first | refine blk_drewN ?_ _ | refine blk_drew ?_ | refine blk_alloc ?_ _)); refine blk_far ?_ NB101_111.out _; (with_reducible repeat (first | refine blk_drewN ?_ _ | refine blk_drew ?_ | refine blk_alloc ?_ _)); exact BK101.out⟩, ⟨by (with_reducible repeat (first | refine blk_drewN ?_ _ | refine blk_drew ?_ | refine blk_alloc ?_ _)); refine blk_far ?_ NB103_111.out _; (with_reducible repeat (first | refine blk_drewN ?_ _ | refine blk_drew ?_ | refine blk_alloc ?_ _)); refine blk_far ?_ NB103_111.out _; (with_reducible repeat (first | refine blk_drewN ?_ _ | refine blk_drew ?_ | refine blk_alloc ?_ _)); exact BK103.out⟩, ⟨by (with_reducible repeat (first | refine blk_drewN ?_ _ | refine blk_drew ?_ | refine blk_alloc ?_ _)); refine blk_put (cs := #[.int .i64 (wrap64 (a1_0 + 1)), .int .i64 0]) ?_ 1 _ rfl; (with_reducible repeat (first | refine blk_drewN ?_ _ | refine blk_drew ?_ | refine blk_alloc ?_ _)); refine blk_put (cs := #[.int .i64 0, .int .i64 0]) ?_ 0 _ rfl; (with_reducible repeat (first | refine blk_drewN ?_ _ | refine blk_drew ?_ | refine blk_alloc ?_ _)); exact BK111.out⟩, ⟨by repeat (first | (with_reducible first | exact HB.out | apply below_alloc | apply pw_below_drewN | apply below_drew1 | refine below_set ?_ GE101.out | refine below_set ?_ GE103.out | refine below_set ?_ GE111.out) | exact HB.out)⟩⟩
        ·rw [if_neg c34] at H
         have c34b0 : (((rd_T67 l0 a1_0).f0) == 0) = false := beq_eq_false_iff_ne.mpr c34
         have c34b1 : (((rd_T67 l0 a1_0).f0) != 0) = true := bne_iff_ne.mpr c34
         (first | rw [c34b0] | (simp only [i64_w, i32_w]; rw [c34b0]) | skip)
         by_cases c35 : ((rd_T67 l0 a1_0).f0) = 3
         ·rw [if_pos c35] at H
          have c35b0 : (((rd_T67 l0 a1_0).f0) == 3) = true := beq_iff_eq.mpr c35
          have c35b1 : (((rd_T67 l0 a1_0).f0) != 3) = false := bne_eq_false_iff_eq.mpr c35
          clear c35
          have H' := Aside0.mk H
          clear H
          go_wp2
          go_meet
          case rel => exact ⟨_, ((((rd_T67 l0 a1_0).f0) == 3)), (by first | rfl | (simp; done) | (simp [*]; done)), H', ⟨by have := HJ6.out; have := HJ15.out; first | omega | exact Nat.le_refl _⟩, ⟨by (with_reducible repeat (first | refine blk_drewN ?_ _ | refine blk_drew ?_ | refine blk_alloc ?_ _)); refine blk_far ?_ NB101_111.out _; (with_reducible repeat (first | refine blk_drewN ?_ _ | refine blk_drew ?_ | refine blk_alloc ?_ _)); refine blk_far ?_ NB101_111.out _; (with_reducible repeat (first | refine blk_drewN ?_ _ | refine blk_drew ?_ | refine blk_alloc ?_ _)); exact BK101.out⟩, ⟨by (with_reducible repeat (first | refine blk_drewN ?_ _ | refine blk_drew ?_ | refine blk_alloc ?_ _)); refine blk_far ?_ NB103_111.out _; (with_reducible repeat (first | refine blk_drewN ?_ _ | refine blk_drew ?_ | refine blk_alloc ?_ _)); refine blk_far ?_ NB103_111.out _; (with_reducible repeat (first | refine blk_drewN ?_ _ | refine blk_drew ?_ | refine blk_alloc ?_ _)); exact BK103.out⟩, ⟨by (with_reducible repeat (first | refine blk_drewN ?_ _ | refine blk_drew ?_ | refine blk_alloc ?_ _)); refine blk_put (cs := #[.int .i64 (wrap64 (a1_0 + 1)), .int .i64 0]) ?_ 1 _ rfl; (with_reducible repeat (first | refine blk_drewN ?_ _ | refine blk_drew ?_ | refine blk_alloc ?_ _)); refine blk_put (cs := #[.int .i64 0, .int .i64 0]) ?_ 0 _ rfl; (with_reducible repeat (first | refine blk_drewN ?_ _ | refine blk_drew ?_ | refine blk_alloc ?_ _)); exact BK111.out⟩, ⟨by repeat (first | (with_reducible first | exact HB.out | apply below_alloc | apply pw_below_drewN | apply below_drew1 | refine below_set ?_ GE101.out | refine below_set ?_ GE103.out | refine below_set ?_ GE111.out) | exact HB.out)⟩⟩
         ·rw [if_neg c35] at H
          have c35b0 : (((rd_T67 l0 a1_0).f0) == 3) = false := beq_eq_false_iff_ne.mpr c35
          have c35b1 : (((rd_T67 l0 a1_0).f0) != 3) = true := bne_iff_ne.mpr c35
          by_cases c36 : ((rd_T67 l0 a1_0).f0) = 4
          ·rw [if_pos c36] at H
           have c36b0 : (((rd_T67 l0 a1_0).f0) == 4) = true := beq_iff_eq.mpr c36
           have c36b1 : (((rd_T67 l0 a1_0).f0) != 4) = false := bne_eq_false_iff_eq.mpr c36
           clear c36
           have H' := Aside0.mk H
           clear H
           go_wp2
           go_meet
           case rel => exact ⟨_, ((((rd_T67 l0 a1_0).f0) == 4)), (by first | rfl | (simp; done) | (simp [*]; done)), H', ⟨by have := HJ6.out; have := HJ15.out; first | omega | exact Nat.le_refl _⟩, ⟨by (with_reducible repeat (first | refine blk_drewN ?_ _ | refine blk_drew ?_ | refine blk_alloc ?_ _)); refine blk_far ?_ NB101_111.out _; (with_reducible repeat (first | refine blk_drewN ?_ _ | refine blk_drew ?_ | refine blk_alloc ?_ _)); refine blk_far ?_ NB101_111.out _; (with_reducible repeat (first | refine blk_drewN ?_ _ | refine blk_drew ?_ | refine blk_alloc ?_ _)); exact BK101.out⟩, ⟨by (with_reducible repeat (first | refine blk_drewN ?_ _ | refine blk_drew ?_ | refine blk_alloc ?_ _)); refine blk_far ?_ NB103_111.out _; (with_reducible repeat (first | refine blk_drewN ?_ _ | refine blk_drew ?_ | refine blk_alloc ?_ _)); refine blk_far ?_ NB103_111.out _; (with_reducible repeat (first | refine blk_drewN ?_ _ | refine blk_drew ?_ | refine blk_alloc ?_ _)); exact BK103.out⟩, ⟨by (with_reducible repeat (first | refine blk_drewN ?_ _ | refine blk_drew ?_ | refine blk_alloc ?_ _)); refine blk_put (cs := #[.int .i64 (wrap64 (a1_0 + 1)), .int .i64 0]) ?_ 1 _ rfl; (with_reducible repeat (first | refine blk_drewN ?_ _ | refine blk_drew ?_ | refine blk_alloc ?_ _)); refine blk_put (cs := #[.int .i64 0, .int .i64 0]) ?_ 0 _ rfl; (with_reducible repeat (first | refine blk_drewN ?_ _ | refine blk_drew ?_ | refine blk_alloc ?_ _)); exact BK111.out⟩, ⟨by repeat (first | (with_reducible first | exact HB.out | apply below_alloc | apply pw_below_drewN | apply below_drew1 | refine below_set ?_ GE101.out | refine below_set ?_ GE103.out | refine below_set ?_ GE111.out) | exact HB.out)⟩⟩
          ·rw [if_neg c36] at H
           have c36b0 : (((rd_T67 l0 a1_0).f0) == 4) = false := beq_eq_false_iff_ne.mpr c36
           have c36b1 : (((rd_T67 l0 a1_0).f0) != 4) = true := bne_iff_ne.mpr c36
           have H' := Aside0.mk H
           clear H
           go_wp2
           go_meet
           case rel => exact ⟨_, ((((rd_T67 l0 a1_0).f0) == 5)), (by first | rfl | (simp; done) | (simp [*]; done)), H', ⟨by have := HJ6.out; have := HJ15.out; first | omega | exact Nat.le_refl _⟩, ⟨by (with_reducible repeat (first | refine blk_drewN ?_ _ | refine blk_drew ?_ | refine blk_alloc ?_ _)); refine blk_far ?_ NB101_111.out _; (with_reducible repeat (first | refine blk_drewN ?_ _ | refine blk_drew ?_ | refine blk_alloc ?_ _)); refine blk_far ?_ NB101_111.out _; (with_reducible repeat (first | refine blk_drewN ?_ _ | refine blk_drew ?_ | refine blk_alloc ?_ _)); exact BK101.out⟩, ⟨by (with_reducible repeat (first | refine blk_drewN ?_ _ | refine blk_drew ?_ | refine blk_alloc ?_ _)); refine blk_far ?_ NB103_111.out _; (with_reducible repeat (first | refine blk_drewN ?_ _ | refine blk_drew ?_ | refine blk_alloc ?_ _)); refine blk_far ?_ NB103_111.out _; (with_reducible repeat (first | refine blk_drewN ?_ _ | refine blk_drew ?_ | refine blk_alloc ?_ _)); exact BK103.out⟩, ⟨by (with_reducible repeat (first | refine blk_drewN ?_ _ | refine blk_drew ?_ | refine blk_alloc ?_ _)); refine blk_put (cs := #[.int .i64 (wrap64 (a1_0 + 1)), .int .i64 0]) ?_ 1 _ rfl; (with_reducible repeat (first | refine blk_drewN ?_ _ | refine blk_drew ?_ | refine blk_alloc ?_ _)); refine blk_put (cs := #[.int .i64 0, .int .i64 0]) ?_ 0 _ rfl; (with_reducible repeat (first | refine blk_drewN ?_ _ | refine blk_drew ?_ | refine blk_alloc ?_ _)); exact BK111.out⟩, ⟨by repeat (first | (with_reducible first | exact HB.out | apply below_alloc | apply pw_below_drewN | apply below_drew1 | refine below_set ?_ GE101.out | refine below_set ?_ GE103.out | refine below_set ?_ GE111.out) | exact HB.out)⟩⟩
       case rest =>
        clear HC26
        try clear c1
        try clear p1
        try clear q1
        try clear hx1
        try clear c2
        try clear p2
        try clear c3
        try clear c4
        try clear c4b0
        try clear c5
        try clear c5b0
        try clear p6
        try clear c7
        try clear c10
        try clear p10
        try clear q10
        try clear hx10
        try clear c11
        try clear c13
        try clear c14
        try clear c17
        try clear c19
        try clear c19b0
        try clear c19b1
        try clear c20
        try clear c23
        try clear c27
        try clear c30
        try clear c31
        try clear c34
        try clear c34b0
        try clear c34b1
        try clear c35
        try clear c35b0
        try clear c35b1
        try clear c36
        try clear c36b0
        try clear c36b1
        try clear hcz12_0
        try clear hcz12_1
        try clear hcz12_2
        try clear hcz12_3
        try clear hcz12_4
        try clear hcz12_5
        try clear hcz12_6
        try clear hcz12_7
        try clear hcz15_0
        try clear hcz15_1
        try clear hcz21_0
        try clear hcz21_1
        try clear hcz21_2
        try clear hcz21_3
        try clear hcz21_4
        try clear hcz21_5
        try clear hcz21_6
        try clear hcz21_7
        try clear hcz24_0
        try clear hcz24_1
        try clear hcz24_2
        try clear hcz24_3
        try clear hcz24_4
        try clear hcz24_5
        try clear hcz24_6
        try clear hcz24_7
        try clear hcz28_0
        try clear hcz28_1
        try clear hcz32_0
        try clear hcz32_1
        try clear hcz33_0
        try clear hcz33_1
        try clear hcz33_2
        try clear hcz33_3
        try clear hcz33_4
        try clear hcz33_5
        try clear hcz33_6
        try clear hcz33_7
        try clear hcz9_0
        try clear hcz9_1
        try clear hfz12_0
        try clear hfz12_1
        try clear hfz12_2
        try clear hfz12_3
        try clear hfz12_4
        try clear hfz12_5
        try clear hfz12_6
        try clear hfz12_7
        try clear hfz15_0
        try clear hfz15_1
        try clear hfz21_0
        try clear hfz21_1
        try clear hfz21_2
        try clear hfz21_3
        try clear hfz21_4
        try clear hfz21_5
        try clear hfz21_6
        try clear hfz21_7
        try clear hfz24_0
        try clear hfz24_1
        try clear hfz24_2
        try clear hfz24_3
        try clear hfz24_4
        try clear hfz24_5
        try clear hfz24_6
        try clear hfz24_7
        try clear hfz28_0
        try clear hfz28_1
        try clear hfz32_0
        try clear hfz32_1
        try clear hfz33_0
        try clear hfz33_1
        try clear hfz33_2
        try clear hfz33_3
        try clear hfz33_4
        try clear hfz33_5
        try clear hfz33_6
        try clear hfz33_7
        try clear hfz9_0
        try clear hfz9_1
        try clear hx102_0
        try clear hx102_1
        try clear hx102_2
        try clear hx102_3
        try clear hx102_4
        try clear hx102_5
        try clear hx102_6
        try clear hx102_7
        try clear p1
        try clear p10
        try clear p102
        try clear p2
        try clear q1
        try clear q10
        try clear q102
        obtain ⟨kq, x55_25, rfl, HA, HJ25, BK101, BK103, BK111, HB⟩ := hcut
        cases kq with
        | zero => exact absurd HA.out (by simp [prog_step.j2])
        | succ kj25 =>
         have H := HA.out
         clear HA
         simp only [prog_step.j2] at H
         by_cases c37 : x55_25 = true
         ·subst c37
          have H1 : (some ((wrap64 (a1_0 + 1)), 0, ((rd_T67 l0 a1_0).f0), ((rd_T67 l0 a1_0).f1), ((rd_T67 l0 a1_0).f2), x14_15, 2, 0)) = some (r1, r2, r3, r4, r5, r6, r7, r8) := by rw [if_pos rfl] at H; exact H
          clear H
          have H := H1
          clear H1
          simp only [Option.some.injEq, Prod.mk.injEq] at H
          obtain ⟨rfl, rfl, rfl, rfl, rfl, rfl, rfl, rfl⟩ := H
          have hnb38 := NB111_101.out
          have hnc38 := NB101_111.out
          have hnb39 := NB111_103.out
          have hnc39 := NB103_111.out
          have hcz40_0 : wc.cell? ⟨gb111, 0, none⟩ = some (.int .i64 (wrap64 (a1_0 + 1))) := (blk_cell BK111.out 0).trans rfl
          have hcz40_1 : wc.cell? ⟨gb111, 1, none⟩ = some (.int .i64 0) := (blk_cell BK111.out 1).trans rfl
          have hfz40_0 := blk_frozen BK111.out 0
          have hfz40_1 := blk_frozen BK111.out 1
          have hnb41 := NB103_101.out
          have hnc41 := NB101_103.out
          have hcz42_0 : wc.cell? ⟨gb103, 0, none⟩ = some (.int .i64 ((rd_T67 l0 a1_0).f0)) := (blk_cell BK103.out 0).trans rfl
          have hcz42_1 : wc.cell? ⟨gb103, 1, none⟩ = some (.string ((rd_T67 l0 a1_0).f1)) := (blk_cell BK103.out 1).trans rfl
          have hcz42_2 : wc.cell? ⟨gb103, 2, none⟩ = some (.string ((rd_T67 l0 a1_0).f2)) := (blk_cell BK103.out 2).trans rfl
          have hcz42_3 : wc.cell? ⟨gb103, 3, none⟩ = some (.int .i64 ((rd_T67 l0 a1_0).f3.f0)) := (blk_cell BK103.out 3).trans rfl
          have hcz42_4 : wc.cell? ⟨gb103, 4, none⟩ = some (.int .i64 ((rd_T67 l0 a1_0).f3.f1)) := (blk_cell BK103.out 4).trans rfl
          have hcz42_5 : wc.cell? ⟨gb103, 5, none⟩ = some (.string ((rd_T67 l0 a1_0).f3.f2)) := (blk_cell BK103.out 5).trans rfl
          have hcz42_6 : wc.cell? ⟨gb103, 6, none⟩ = some (.slice A102_6 ((rd_T67 l0 a1_0).f3.f3).length c102_6) := (blk_cell BK103.out 6).trans rfl
          have hcz42_7 : wc.cell? ⟨gb103, 7, none⟩ = some (.int .i64 ((rd_T67 l0 a1_0).f4)) := (blk_cell BK103.out 7).trans rfl
          have hfz42_0 := blk_frozen BK103.out 0
          have hfz42_1 := blk_frozen BK103.out 1
          have hfz42_2 := blk_frozen BK103.out 2
          have hfz42_3 := blk_frozen BK103.out 3
          have hfz42_4 := blk_frozen BK103.out 4
          have hfz42_5 := blk_frozen BK103.out 5
          have hfz42_6 := blk_frozen BK103.out 6
          have hfz42_7 := blk_frozen BK103.out 7
          go_wp2
          go_ret2
          exact ⟨by first | rfl | (simp [errW_none, errW_some] <;> rfl) | (simp [*, errW_none, errW_some] <;> rfl), by repeat (first | (with_reducible first | exact HB.out | apply below_alloc | apply pw_below_drewN | apply below_drew1 | refine below_set ?_ GE101.out | refine below_set ?_ GE103.out | refine below_set ?_ GE111.out) | exact HB.out)⟩
         ·replace c37 := Bool.eq_false_iff.mpr c37
          subst c37
          have H1 : (if ((rd_T67 l0 a1_0).f0) = 7 then (some ((wrap64 (a1_0 + 1)), 0, ((rd_T67 l0 a1_0).f0), ((rd_T67 l0 a1_0).f1), (⟨#[]⟩ : ByteArray), 0, 2, 0)) else (if ((rd_T67 l0 a1_0).f0) = 1 then (if x14_15 = 0 then (some (a1_0, a1_1, 0, (⟨#[]⟩ : ByteArray), (⟨#[]⟩ : ByteArray), 0, 1, 0)) else (some ((wrap64 (a1_0 + 1)), 0, 0, (⟨#[]⟩ : ByteArray), (⟨#[]⟩ : ByteArray), 0, 1, 0))) else (if ((rd_T67 l0 a1_0).f0) = 2 then ((prog_delayed.f a1_0 a1_1 x14_15 (wrap64 (a1_0 + 1)) 0).bind fun bt112 => (some (bt112.1, bt112.2, 0, (⟨#[]⟩ : ByteArray), (⟨#[]⟩ : ByteArray), 0, 1, 0))) else (if ((rd_T67 l0 a1_0).f0) = 6 then (if ((rd_T67 l0 a1_0).f4) < 0 then (some (0, 0, 0, (⟨#[]⟩ : ByteArray), (⟨#[]⟩ : ByteArray), 0, 0, 1)) else (if ((rd_T67 l0 a1_0).f4) > (l0.length : Int) then (some (0, 0, 0, (⟨#[]⟩ : ByteArray), (⟨#[]⟩ : ByteArray), 0, 0, 1)) else (some (((rd_T67 l0 a1_0).f4), 0, 0, (⟨#[]⟩ : ByteArray), (⟨#[]⟩ : ByteArray), 0, 1, 0)))) else (some ((wrap64 (a1_0 + 1)), 0, 0, (⟨#[]⟩ : ByteArray), (⟨#[]⟩ : ByteArray), 0, 1, 0)))))) = some (r1, r2, r3, r4, r5, r6, r7, r8) := by rw [if_neg (show ¬ (false = true) by decide)] at H; exact H
          clear H
          have H := H1
          clear H1
          by_cases c43 : ((rd_T67 l0 a1_0).f0) = 7
          ·rw [if_pos c43] at H
           have c43b0 : (((rd_T67 l0 a1_0).f0) == 7) = true := beq_iff_eq.mpr c43
           have c43b1 : (((rd_T67 l0 a1_0).f0) != 7) = false := bne_eq_false_iff_eq.mpr c43
           clear c43
           simp only [Option.some.injEq, Prod.mk.injEq] at H
           obtain ⟨rfl, rfl, rfl, rfl, rfl, rfl, rfl, rfl⟩ := H
           have hnb44 := NB111_101.out
           have hnc44 := NB101_111.out
           have hnb45 := NB111_103.out
           have hnc45 := NB103_111.out
           have hcz46_0 : wc.cell? ⟨gb111, 0, none⟩ = some (.int .i64 (wrap64 (a1_0 + 1))) := (blk_cell BK111.out 0).trans rfl
           have hcz46_1 : wc.cell? ⟨gb111, 1, none⟩ = some (.int .i64 0) := (blk_cell BK111.out 1).trans rfl
           have hfz46_0 := blk_frozen BK111.out 0
           have hfz46_1 := blk_frozen BK111.out 1
           have hnb47 := NB103_101.out
           have hnc47 := NB101_103.out
           have hcz48_0 : wc.cell? ⟨gb103, 0, none⟩ = some (.int .i64 ((rd_T67 l0 a1_0).f0)) := (blk_cell BK103.out 0).trans rfl
           have hcz48_1 : wc.cell? ⟨gb103, 1, none⟩ = some (.string ((rd_T67 l0 a1_0).f1)) := (blk_cell BK103.out 1).trans rfl
           have hcz48_2 : wc.cell? ⟨gb103, 2, none⟩ = some (.string ((rd_T67 l0 a1_0).f2)) := (blk_cell BK103.out 2).trans rfl
           have hcz48_3 : wc.cell? ⟨gb103, 3, none⟩ = some (.int .i64 ((rd_T67 l0 a1_0).f3.f0)) := (blk_cell BK103.out 3).trans rfl
           have hcz48_4 : wc.cell? ⟨gb103, 4, none⟩ = some (.int .i64 ((rd_T67 l0 a1_0).f3.f1)) := (blk_cell BK103.out 4).trans rfl
           have hcz48_5 : wc.cell? ⟨gb103, 5, none⟩ = some (.string ((rd_T67 l0 a1_0).f3.f2)) := (blk_cell BK103.out 5).trans rfl
           have hcz48_6 : wc.cell? ⟨gb103, 6, none⟩ = some (.slice A102_6 ((rd_T67 l0 a1_0).f3.f3).length c102_6) := (blk_cell BK103.out 6).trans rfl
           have hcz48_7 : wc.cell? ⟨gb103, 7, none⟩ = some (.int .i64 ((rd_T67 l0 a1_0).f4)) := (blk_cell BK103.out 7).trans rfl
           have hfz48_0 := blk_frozen BK103.out 0
           have hfz48_1 := blk_frozen BK103.out 1
           have hfz48_2 := blk_frozen BK103.out 2
           have hfz48_3 := blk_frozen BK103.out 3
           have hfz48_4 := blk_frozen BK103.out 4
           have hfz48_5 := blk_frozen BK103.out 5
           have hfz48_6 := blk_frozen BK103.out 6
           have hfz48_7 := blk_frozen BK103.out 7
           go_wp2
           go_ret2
           exact ⟨by first | rfl | (simp [errW_none, errW_some] <;> rfl) | (simp [*, errW_none, errW_some] <;> rfl), by repeat (first | (with_reducible first | exact HB.out | apply below_alloc | apply pw_below_drewN | apply below_drew1 | refine below_set ?_ GE101.out | refine below_set ?_ GE103.out | refine below_set ?_ GE111.out) | exact HB.out)⟩
          ·rw [if_neg c43] at H
           have c43b0 : (((rd_T67 l0 a1_0).f0) == 7) = false := beq_eq_false_iff_ne.mpr c43
           have c43b1 : (((rd_T67 l0 a1_0).f0) != 7) = true := bne_iff_ne.mpr c43
           by_cases c49 : ((rd_T67 l0 a1_0).f0) = 1
           ·rw [if_pos c49] at H
            have c49b0 : (((rd_T67 l0 a1_0).f0) == 1) = true := beq_iff_eq.mpr c49
            have c49b1 : (((rd_T67 l0 a1_0).f0) != 1) = false := bne_eq_false_iff_eq.mpr c49
            clear c49
            by_cases c50 : x14_15 = 0
            ·rw [if_pos c50] at H
             have c50b0 : (x14_15 == 0) = true := beq_iff_eq.mpr c50
             have c50b1 : (x14_15 != 0) = false := bne_eq_false_iff_eq.mpr c50
             clear c50
             simp only [Option.some.injEq, Prod.mk.injEq] at H
             obtain ⟨rfl, rfl, rfl, rfl, rfl, rfl, rfl, rfl⟩ := H
             have hnb51 := NB101_103.out
             have hnc51 := NB103_101.out
             have hnb52 := NB101_111.out
             have hnc52 := NB111_101.out
             have hcz53_0 : wc.cell? ⟨gb101, 0, none⟩ = some (.int .i64 a1_0) := (blk_cell BK101.out 0).trans rfl
             have hcz53_1 : wc.cell? ⟨gb101, 1, none⟩ = some (.int .i64 a1_1) := (blk_cell BK101.out 1).trans rfl
             have hfz53_0 := blk_frozen BK101.out 0
             have hfz53_1 := blk_frozen BK101.out 1
             have hnb54 := NB111_103.out
             have hnc54 := NB103_111.out
             have hcz55_0 : wc.cell? ⟨gb111, 0, none⟩ = some (.int .i64 (wrap64 (a1_0 + 1))) := (blk_cell BK111.out 0).trans rfl
             have hcz55_1 : wc.cell? ⟨gb111, 1, none⟩ = some (.int .i64 0) := (blk_cell BK111.out 1).trans rfl
             have hfz55_0 := blk_frozen BK111.out 0
             have hfz55_1 := blk_frozen BK111.out 1
             go_wp2
             go_ret2
             exact ⟨by first | rfl | (simp [errW_none, errW_some] <;> rfl) | (simp [*, errW_none, errW_some] <;> rfl), by repeat (first | (with_reducible first | exact HB.out | apply below_alloc | apply pw_below_drewN | apply below_drew1 | refine below_set ?_ GE101.out | refine below_set ?_ GE103.out | refine below_set ?_ GE111.out) | exact HB.out)⟩
            ·rw [if_neg c50] at H
             have c50b0 : (x14_15 == 0) = false := beq_eq_false_iff_ne.mpr c50
             have c50b1 : (x14_15 != 0) = true := bne_iff_ne.mpr c50
             simp only [Option.some.injEq, Prod.mk.injEq] at H
             obtain ⟨rfl, rfl, rfl, rfl, rfl, rfl, rfl, rfl⟩ := H
             have hnb56 := NB111_101.out
             have hnc56 := NB101_111.out
             have hnb57 := NB111_103.out
             have hnc57 := NB103_111.out
             have hcz58_0 : wc.cell? ⟨gb111, 0, none⟩ = some (.int .i64 (wrap64 (a1_0 + 1))) := (blk_cell BK111.out 0).trans rfl
             have hcz58_1 : wc.cell? ⟨gb111, 1, none⟩ = some (.int .i64 0) := (blk_cell BK111.out 1).trans rfl
             have hfz58_0 := blk_frozen BK111.out 0
             have hfz58_1 := blk_frozen BK111.out 1
             go_wp2
             go_ret2
             exact ⟨by first | rfl | (simp [errW_none, errW_some] <;> rfl) | (simp [*, errW_none, errW_some] <;> rfl), by repeat (first | (with_reducible first | exact HB.out | apply below_alloc | apply pw_below_drewN | apply below_drew1 | refine below_set ?_ GE101.out | refine below_set ?_ GE103.out | refine below_set ?_ GE111.out) | exact HB.out)⟩
           ·rw [if_neg c49] at H
            have c49b0 : (((rd_T67 l0 a1_0).f0) == 1) = false := beq_eq_false_iff_ne.mpr c49
            have c49b1 : (((rd_T67 l0 a1_0).f0) != 1) = true := bne_iff_ne.mpr c49
            by_cases c59 : ((rd_T67 l0 a1_0).f0) = 2
            ·rw [if_pos c59] at H
             have c59b0 : (((rd_T67 l0 a1_0).f0) == 2) = true := beq_iff_eq.mpr c59
             have c59b1 : (((rd_T67 l0 a1_0).f0) != 2) = false := bne_eq_false_iff_eq.mpr c59
             clear c59
             replace H := Option.bind_eq_some_iff.mp H
             obtain ⟨⟨t112, t113⟩, A600, H⟩ := H
             replace H : (some (t112, t113, 0, (⟨#[]⟩ : ByteArray), (⟨#[]⟩ : ByteArray), 0, 1, 0)) = some (r1, r2, r3, r4, r5, r6, r7, r8) := H
             have A60 := Aside0.mk A600
             clear A600
             simp only [Option.some.injEq, Prod.mk.injEq] at H
             obtain ⟨rfl, rfl, rfl, rfl, rfl, rfl, rfl, rfl⟩ := H
             have hnb61 := NB101_103.out
             have hnc61 := NB103_101.out
             have hnb62 := NB101_111.out
             have hnc62 := NB111_101.out
             have hcz63_0 : wc.cell? ⟨gb101, 0, none⟩ = some (.int .i64 a1_0) := (blk_cell BK101.out 0).trans rfl
             have hcz63_1 : wc.cell? ⟨gb101, 1, none⟩ = some (.int .i64 a1_1) := (blk_cell BK101.out 1).trans rfl
             have hfz63_0 := blk_frozen BK101.out 0
             have hfz63_1 := blk_frozen BK101.out 1
             have hnb64 := NB111_103.out
             have hnc64 := NB103_111.out
             have hcz65_0 : wc.cell? ⟨gb111, 0, none⟩ = some (.int .i64 (wrap64 (a1_0 + 1))) := (blk_cell BK111.out 0).trans rfl
             have hcz65_1 : wc.cell? ⟨gb111, 1, none⟩ = some (.int .i64 0) := (blk_cell BK111.out 1).trans rfl
             have hfz65_0 := blk_frozen BK111.out 0
             have hfz65_1 := blk_frozen BK111.out 1
             go_wp2_with (first | ((with_reducible refine gate_callee (f := 102) rfl ?_); refine goesL_ (some 91) rfl rfl Tryd.func102 (by kernel_rfl) rfl #[.agg #[.int .i64 a1_0, .int .i64 a1_1], .int .i64 x14_15, .agg #[.int .i64 (wrap64 (a1_0 + 1)), .int .i64 0]] rfl (by (try simp only [List.map_toArray, List.map_cons, List.map_nil]); first | done | rfl | (simp only [List.length_drop, List.length_take]; rfl)) ?_; (with_reducible refine (prog_delayed.calls a1_0 a1_1 x14_15 (wrap64 (a1_0 + 1)) 0 t112 t113 _ A60.out).mono ?_); rintro e w66 ⟨rfl, hb⟩; refine ⟨_, rfl, ?_⟩; have n0_ := Aside0.mk (blk_below (g := gb101) (o := .cells #[.int .i64 a1_0, .int .i64 a1_1] 57 (0, 0)) (by (with_reducible repeat (first | refine blk_drewN ?_ _ | refine blk_drew ?_ | refine blk_alloc ?_ _)); exact BK101.out) hb); have n1_ := Aside0.mk (blk_below (g := gb103) (o := .cells #[.int .i64 ((rd_T67 l0 a1_0).f0), .string ((rd_T67 l0 a1_0).f1), .string ((rd_T67 l0 a1_0).f2), .int .i64 ((rd_T67 l0 a1_0).f3.f0), .int .i64 ((rd_T67 l0 a1_0).f3.f1), .string ((rd_T67 l0 a1_0).f3.f2), .slice A102_6 ((rd_T67 l0 a1_0).f3.f3).length c102_6, .int .i64 ((rd_T67 l0 a1_0).f4)] 67 (0, 0)) (by (with_reducible repeat (first | refine blk_drewN ?_ _ | refine blk_drew ?_ | refine blk_alloc ?_ _)); exact BK103.out) hb); have n2_ := Aside0.mk (blk_below (g := gb111) (o := .cells #[.int .i64 (wrap64 (a1_0 + 1)), .int .i64 0] 114 (0, 0)) (by (with_reducible repeat (first | refine blk_drewN ?_ _ | refine blk_drew ?_ | refine blk_alloc ?_ _)); exact BK111.out) hb); have n3_ := Aside0.mk (below_step (by repeat (first | (with_reducible first | exact HB.out | apply below_alloc | apply pw_below_drewN | apply below_drew1 | refine below_set ?_ GE101.out | refine below_set ?_ GE103.out | refine below_set ?_ GE111.out) | exact HB.out)) hb); clear BK101; clear BK103; clear BK111; clear HB; have BK101 := n0_; have BK103 := n1_; have BK111 := n2_; have HB := n3_; clear n0_ n1_ n2_ n3_; (try clear hb); (try clear hb2); (try clear hk); (try clear hi); have hcz67_0 : w66.cell? ⟨gb111, 0, none⟩ = some (.int .i64 (wrap64 (a1_0 + 1))) := (blk_cell BK111.out 0).trans rfl; have hcz67_1 : w66.cell? ⟨gb111, 1, none⟩ = some (.int .i64 0) := (blk_cell BK111.out 1).trans rfl; have hfz67_0 := blk_frozen BK111.out 0; have hfz67_1 := blk_frozen BK111.out 1))
             go_ret2
             exact ⟨by first | rfl | (simp [errW_none, errW_some] <;> rfl) | (simp [*, errW_none, errW_some] <;> rfl), by repeat (first | (with_reducible first | exact HB.out | apply below_alloc | apply pw_below_drewN | apply below_drew1 | refine below_set ?_ GE101.out | refine below_set ?_ GE103.out | refine below_set ?_ GE111.out) | exact HB.out)⟩
            ·rw [if_neg c59] at H
             have c59b0 : (((rd_T67 l0 a1_0).f0) == 2) = false := beq_eq_false_iff_ne.mpr c59
             have c59b1 : (((rd_T67 l0 a1_0).f0) != 2) = true := bne_iff_ne.mpr c59
             by_cases c68 : ((rd_T67 l0 a1_0).f0) = 6
             ·rw [if_pos c68] at H
              have c68b0 : (((rd_T67 l0 a1_0).f0) == 6) = true := beq_iff_eq.mpr c68
              have c68b1 : (((rd_T67 l0 a1_0).f0) != 6) = false := bne_eq_false_iff_eq.mpr c68
              clear c68
              by_cases c69 : ((rd_T67 l0 a1_0).f4) < 0
              ·rw [if_pos c69] at H
               have c69b0 : decide (((rd_T67 l0 a1_0).f4) < 0) = true := decide_eq_true c69
               clear c69
               simp only [Option.some.injEq, Prod.mk.injEq] at H
               obtain ⟨rfl, rfl, rfl, rfl, rfl, rfl, rfl, rfl⟩ := H
               have hnb70 := NB103_101.out
               have hnc70 := NB101_103.out
               have hnb71 := NB103_111.out
               have hnc71 := NB111_103.out
               have hcz72_0 : wc.cell? ⟨gb103, 0, none⟩ = some (.int .i64 ((rd_T67 l0 a1_0).f0)) := (blk_cell BK103.out 0).trans rfl
               have hcz72_1 : wc.cell? ⟨gb103, 1, none⟩ = some (.string ((rd_T67 l0 a1_0).f1)) := (blk_cell BK103.out 1).trans rfl
               have hcz72_2 : wc.cell? ⟨gb103, 2, none⟩ = some (.string ((rd_T67 l0 a1_0).f2)) := (blk_cell BK103.out 2).trans rfl
               have hcz72_3 : wc.cell? ⟨gb103, 3, none⟩ = some (.int .i64 ((rd_T67 l0 a1_0).f3.f0)) := (blk_cell BK103.out 3).trans rfl
               have hcz72_4 : wc.cell? ⟨gb103, 4, none⟩ = some (.int .i64 ((rd_T67 l0 a1_0).f3.f1)) := (blk_cell BK103.out 4).trans rfl
               have hcz72_5 : wc.cell? ⟨gb103, 5, none⟩ = some (.string ((rd_T67 l0 a1_0).f3.f2)) := (blk_cell BK103.out 5).trans rfl
               have hcz72_6 : wc.cell? ⟨gb103, 6, none⟩ = some (.slice A102_6 ((rd_T67 l0 a1_0).f3.f3).length c102_6) := (blk_cell BK103.out 6).trans rfl
               have hcz72_7 : wc.cell? ⟨gb103, 7, none⟩ = some (.int .i64 ((rd_T67 l0 a1_0).f4)) := (blk_cell BK103.out 7).trans rfl
               have hfz72_0 := blk_frozen BK103.out 0
               have hfz72_1 := blk_frozen BK103.out 1
               have hfz72_2 := blk_frozen BK103.out 2
               have hfz72_3 := blk_frozen BK103.out 3
               have hfz72_4 := blk_frozen BK103.out 4
               have hfz72_5 := blk_frozen BK103.out 5
               have hfz72_6 := blk_frozen BK103.out 6
               have hfz72_7 := blk_frozen BK103.out 7
               go_wp2
               go_ret2
               exact ⟨by first | rfl | (simp [errW_none, errW_some] <;> rfl) | (simp [*, errW_none, errW_some] <;> rfl), by repeat (first | (with_reducible first | exact HB.out | apply below_alloc | apply pw_below_drewN | apply below_drew1 | refine below_set ?_ GE101.out | refine below_set ?_ GE103.out | refine below_set ?_ GE111.out) | exact HB.out)⟩
              ·rw [if_neg c69] at H
               have c69b0 : decide (((rd_T67 l0 a1_0).f4) < 0) = false := decide_eq_false c69
               clear c69
               by_cases c73 : ((rd_T67 l0 a1_0).f4) > (l0.length : Int)
               ·rw [if_pos c73] at H
                have c73b0 : decide ((l0.length : Int) < ((rd_T67 l0 a1_0).f4)) = true := decide_eq_true c73
                clear c73
                simp only [Option.some.injEq, Prod.mk.injEq] at H
                obtain ⟨rfl, rfl, rfl, rfl, rfl, rfl, rfl, rfl⟩ := H
                have hnb74 := NB103_101.out
                have hnc74 := NB101_103.out
                have hnb75 := NB103_111.out
                have hnc75 := NB111_103.out
                have hcz76_0 : wc.cell? ⟨gb103, 0, none⟩ = some (.int .i64 ((rd_T67 l0 a1_0).f0)) := (blk_cell BK103.out 0).trans rfl
                have hcz76_1 : wc.cell? ⟨gb103, 1, none⟩ = some (.string ((rd_T67 l0 a1_0).f1)) := (blk_cell BK103.out 1).trans rfl
                have hcz76_2 : wc.cell? ⟨gb103, 2, none⟩ = some (.string ((rd_T67 l0 a1_0).f2)) := (blk_cell BK103.out 2).trans rfl
                have hcz76_3 : wc.cell? ⟨gb103, 3, none⟩ = some (.int .i64 ((rd_T67 l0 a1_0).f3.f0)) := (blk_cell BK103.out 3).trans rfl
                have hcz76_4 : wc.cell? ⟨gb103, 4, none⟩ = some (.int .i64 ((rd_T67 l0 a1_0).f3.f1)) := (blk_cell BK103.out 4).trans rfl
                have hcz76_5 : wc.cell? ⟨gb103, 5, none⟩ = some (.string ((rd_T67 l0 a1_0).f3.f2)) := (blk_cell BK103.out 5).trans rfl
                have hcz76_6 : wc.cell? ⟨gb103, 6, none⟩ = some (.slice A102_6 ((rd_T67 l0 a1_0).f3.f3).length c102_6) := (blk_cell BK103.out 6).trans rfl
                have hcz76_7 : wc.cell? ⟨gb103, 7, none⟩ = some (.int .i64 ((rd_T67 l0 a1_0).f4)) := (blk_cell BK103.out 7).trans rfl
                have hfz76_0 := blk_frozen BK103.out 0
                have hfz76_1 := blk_frozen BK103.out 1
                have hfz76_2 := blk_frozen BK103.out 2
                have hfz76_3 := blk_frozen BK103.out 3
                have hfz76_4 := blk_frozen BK103.out 4
                have hfz76_5 := blk_frozen BK103.out 5
                have hfz76_6 := blk_frozen BK103.out 6
                have hfz76_7 := blk_frozen BK103.out 7
                go_wp2
                go_ret2
                exact ⟨by first | rfl | (simp [errW_none, errW_some] <;> rfl) | (simp [*, errW_none, errW_some] <;> rfl), by repeat (first | (with_reducible first | exact HB.out | apply below_alloc | apply pw_below_drewN | apply below_drew1 | refine below_set ?_ GE101.out | refine below_set ?_ GE103.out | refine below_set ?_ GE111.out) | exact HB.out)⟩
               ·rw [if_neg c73] at H
                have c73b0 : decide ((l0.length : Int) < ((rd_T67 l0 a1_0).f4)) = false := decide_eq_false c73
                clear c73
                simp only [Option.some.injEq, Prod.mk.injEq] at H
                obtain ⟨rfl, rfl, rfl, rfl, rfl, rfl, rfl, rfl⟩ := H
                have hnb77 := NB103_101.out
                have hnc77 := NB101_103.out
                have hnb78 := NB103_111.out
                have hnc78 := NB111_103.out
                have hcz79_0 : wc.cell? ⟨gb103, 0, none⟩ = some (.int .i64 ((rd_T67 l0 a1_0).f0)) := (blk_cell BK103.out 0).trans rfl
                have hcz79_1 : wc.cell? ⟨gb103, 1, none⟩ = some (.string ((rd_T67 l0 a1_0).f1)) := (blk_cell BK103.out 1).trans rfl
                have hcz79_2 : wc.cell? ⟨gb103, 2, none⟩ = some (.string ((rd_T67 l0 a1_0).f2)) := (blk_cell BK103.out 2).trans rfl
                have hcz79_3 : wc.cell? ⟨gb103, 3, none⟩ = some (.int .i64 ((rd_T67 l0 a1_0).f3.f0)) := (blk_cell BK103.out 3).trans rfl
                have hcz79_4 : wc.cell? ⟨gb103, 4, none⟩ = some (.int .i64 ((rd_T67 l0 a1_0).f3.f1)) := (blk_cell BK103.out 4).trans rfl
                have hcz79_5 : wc.cell? ⟨gb103, 5, none⟩ = some (.string ((rd_T67 l0 a1_0).f3.f2)) := (blk_cell BK103.out 5).trans rfl
                have hcz79_6 : wc.cell? ⟨gb103, 6, none⟩ = some (.slice A102_6 ((rd_T67 l0 a1_0).f3.f3).length c102_6) := (blk_cell BK103.out 6).trans rfl
                have hcz79_7 : wc.cell? ⟨gb103, 7, none⟩ = some (.int .i64 ((rd_T67 l0 a1_0).f4)) := (blk_cell BK103.out 7).trans rfl
                have hfz79_0 := blk_frozen BK103.out 0
                have hfz79_1 := blk_frozen BK103.out 1
                have hfz79_2 := blk_frozen BK103.out 2
                have hfz79_3 := blk_frozen BK103.out 3
                have hfz79_4 := blk_frozen BK103.out 4
                have hfz79_5 := blk_frozen BK103.out 5
                have hfz79_6 := blk_frozen BK103.out 6
                have hfz79_7 := blk_frozen BK103.out 7
                have hnb80 := NB111_101.out
                have hnc80 := NB101_111.out
                have hcz81_0 : wc.cell? ⟨gb111, 0, none⟩ = some (.int .i64 (wrap64 (a1_0 + 1))) := (blk_cell BK111.out 0).trans rfl
                have hcz81_1 : wc.cell? ⟨gb111, 1, none⟩ = some (.int .i64 0) := (blk_cell BK111.out 1).trans rfl
                have hfz81_0 := blk_frozen BK111.out 0
                have hfz81_1 := blk_frozen BK111.out 1
                go_wp2
                go_ret2
                exact ⟨by first | rfl | (simp [errW_none, errW_some] <;> rfl) | (simp [*, errW_none, errW_some] <;> rfl), by repeat (first | (with_reducible first | exact HB.out | apply below_alloc | apply pw_below_drewN | apply below_drew1 | refine below_set ?_ GE101.out | refine below_set ?_ GE103.out | refine below_set ?_ GE111.out) | exact HB.out)⟩
             ·rw [if_neg c68] at H
              have c68b0 : (((rd_T67 l0 a1_0).f0) == 6) = false := beq_eq_false_iff_ne.mpr c68
              have c68b1 : (((rd_T67 l0 a1_0).f0) != 6) = true := bne_iff_ne.mpr c68
              simp only [Option.some.injEq, Prod.mk.injEq] at H
              obtain ⟨rfl, rfl, rfl, rfl, rfl, rfl, rfl, rfl⟩ := H
              have hnb82 := NB111_101.out
              have hnc82 := NB101_111.out
              have hnb83 := NB111_103.out
              have hnc83 := NB103_111.out
              have hcz84_0 : wc.cell? ⟨gb111, 0, none⟩ = some (.int .i64 (wrap64 (a1_0 + 1))) := (blk_cell BK111.out 0).trans rfl
              have hcz84_1 : wc.cell? ⟨gb111, 1, none⟩ = some (.int .i64 0) := (blk_cell BK111.out 1).trans rfl
              have hfz84_0 := blk_frozen BK111.out 0
              have hfz84_1 := blk_frozen BK111.out 1
              go_wp2
              go_ret2
              exact ⟨by first | rfl | (simp [errW_none, errW_some] <;> rfl) | (simp [*, errW_none, errW_some] <;> rfl), by repeat (first | (with_reducible first | exact HB.out | apply below_alloc | apply pw_below_drewN | apply below_drew1 | refine below_set ?_ GE101.out | refine below_set ?_ GE103.out | refine below_set ?_ GE111.out) | exact HB.out)⟩
  ·rw [if_neg c5] at H
   exact absurd H (by simp)
 ·rw [if_neg c4] at H
  exact absurd H (by simp)
end Go.Proofs.YtiaccdaeomaogaaDoor.F
