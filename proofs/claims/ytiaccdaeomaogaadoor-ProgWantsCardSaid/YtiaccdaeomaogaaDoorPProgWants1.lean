/- Texts of one claim, slimmed and merged by slim.py. -/
import Derived.Test.YtiaccdaeomaogaaDoorP4
import Derived.Test.YtiaccdaeomaogaaDoorP7
import Derived.Test.YtiaccdaeomaogaaDoorP11
import Derived.Test.YtiaccdaeomaogaaDoorP16
import Derived.Test.YtiaccdaeomaogaaDoorP17
import Derived.Test.YtiaccdaeomaogaaDoorP21
namespace Go.Proofs.YtiaccdaeomaogaaDoor.F
open Go.RowKit Go.Proofs.YtiaccdaeomaogaaDoorW.PrintWords Go.Proofs.YtiaccdaeomaogaaDoorW.PrintLast Go.Proofs.YtiaccdaeomaogaaDoorW.PrintMore
attribute [local go_sem] max2_int min2_int max_two min_two max_three min_three max_four min_four   -- for this text's walks alone
set_option linter.unusedVariables false
set_option linter.unusedSimpArgs false
mutual
def malthouselaw11_ProgWants.j0 : Nat → List (S69) → Bool → Bool → Int → ByteArray → ByteArray → Int → Int → ByteArray → List (S34) → Int → Option (Bool)
 | 0, _, _, _, _, _, _, _, _, _, _, _ => none
 | k + 1, x1, x5, x29, x102000, x102001, x102002, x102003, x102004, x102005, x102006, x102007 => if x29 = true then (some x5) else ((prog_Scan.f k (([(⟨x102000, x102001, x102002, (⟨x102003, x102004, x102005, x102006⟩ : S34), x102007⟩ : S67)] : List (S67))) 0 0 x1).bind fun bt111 => ((expr_Eval.f k x102003 x102004 x102005 x102006 x1).bind fun bt119 => (if x102000 = 0 then (malthouselaw11_ProgWants.j1 k bt111.2.2.1 bt111.2.2.2.2 bt119.1 bt119.2 x102000 (x102000 == 0) x102000 x102001 x102002 x102003 x102004 x102005 x102006 x102007) else (if x102000 = 3 then (malthouselaw11_ProgWants.j1 k bt111.2.2.1 bt111.2.2.2.2 bt119.1 bt119.2 x102000 (x102000 == 3) x102000 x102001 x102002 x102003 x102004 x102005 x102006 x102007) else (if x102000 = 4 then (malthouselaw11_ProgWants.j1 k bt111.2.2.1 bt111.2.2.2.2 bt119.1 bt119.2 x102000 (x102000 == 4) x102000 x102001 x102002 x102003 x102004 x102005 x102006 x102007) else (malthouselaw11_ProgWants.j1 k bt111.2.2.1 bt111.2.2.2.2 bt119.1 bt119.2 x102000 (x102000 == 5) x102000 x102001 x102002 x102003 x102004 x102005 x102006 x102007))))))
def malthouselaw11_ProgWants.j1 : Nat → List (S72) → Int → Int → Int → Int → Bool → Int → ByteArray → ByteArray → Int → Int → ByteArray → List (S34) → Int → Option (Bool)
 | 0, _, _, _, _, _, _, _, _, _, _, _, _, _, _ => none
 | k + 1, x9, x11, x12, x13, x49, x50, x102000, x102001, x102002, x102003, x102004, x102005, x102006, x102007 => if x50 = true then (if x13 = 0 then (if x11 = 0 then (if (x9.length : Int) = 1 then (if 0 < (x9.length : Int) then (if ((rd_T72 x9 0).f0) = x102000 then (if ((rd_T72 x9 0).f1).toList = x102001.toList then (if ((rd_T72 x9 0).f2).toList = x102002.toList then (some (((rd_T72 x9 0).f3) == x12)) else (some false)) else (some false)) else (some false)) else (none)) else (some false)) else (some false)) else (if x11 = x13 then (some ((x9.length : Int) == 0)) else (some false))) else (if x49 = 7 then (if x11 = 0 then (if (x9.length : Int) = 1 then (if 0 < (x9.length : Int) then (if ((rd_T72 x9 0).f0) = x102000 then (if ((rd_T72 x9 0).f1).toList = x102001.toList then (some (((rd_T72 x9 0).f3) == 0)) else (some false)) else (some false)) else (none)) else (some false)) else (some false)) else (some ((x9.length : Int) == 0)))
end
def malthouselaw11_ProgWants.f (k : Nat) (a0_0 : Int) (a0_1 : ByteArray) (a0_2 : ByteArray) (a0_3 : Int) (a0_4 : Int) (a0_5 : ByteArray) (l0_6 : List (S34)) (a0_7 : Int) (l1 : List (S69)) : Option (Bool) := (malthouselaw11_awake.f k).bind fun t102 => ((malthouseref11_Light.f k (([(⟨a0_0, a0_1, a0_2, (⟨a0_3, a0_4, a0_5, l0_6⟩ : S34), a0_7⟩ : S67)] : List (S67)))).bind fun t106 => ((malthouselaw11_cells.f k l1).bind fun t107 => (if t102 = true then (if t106 = true then (malthouselaw11_ProgWants.j0 k l1 t102 (!t107) a0_0 a0_1 a0_2 a0_3 a0_4 a0_5 l0_6 a0_7) else (malthouselaw11_ProgWants.j0 k l1 t102 true a0_0 a0_1 a0_2 a0_3 a0_4 a0_5 l0_6 a0_7)) else (malthouselaw11_ProgWants.j0 k l1 t102 true a0_0 a0_1 a0_2 a0_3 a0_4 a0_5 l0_6 a0_7))))
theorem malthouselaw11_ProgWants.mono_l : ∀ k, (∀ y0 y1 y2 y3 y4 y5 y6 y7 y8 y9 y10, LeO (malthouselaw11_ProgWants.j0 k y0 y1 y2 y3 y4 y5 y6 y7 y8 y9 y10) (malthouselaw11_ProgWants.j0 (k + 1) y0 y1 y2 y3 y4 y5 y6 y7 y8 y9 y10)) ∧ (∀ y0 y1 y2 y3 y4 y5 y6 y7 y8 y9 y10 y11 y12 y13, LeO (malthouselaw11_ProgWants.j1 k y0 y1 y2 y3 y4 y5 y6 y7 y8 y9 y10 y11 y12 y13) (malthouselaw11_ProgWants.j1 (k + 1) y0 y1 y2 y3 y4 y5 y6 y7 y8 y9 y10 y11 y12 y13))
 | 0 => ⟨fun _ _ _ _ _ _ _ _ _ _ _ r h => by simp [malthouselaw11_ProgWants.j0] at h, fun _ _ _ _ _ _ _ _ _ _ _ _ _ _ r h => by simp [malthouselaw11_ProgWants.j1] at h⟩
 | k + 1 => by
  obtain ⟨ih0, ih1⟩ := malthouselaw11_ProgWants.mono_l k
  refine ⟨?_, ?_⟩
  ·intro y0 y1 y2 y3 y4 y5 y6 y7 y8 y9 y10
   unfold malthouselaw11_ProgWants.j0
   repeat' first
   | (with_reducible exact ih0 _ _ _ _ _ _ _ _ _ _ _)
   | (with_reducible exact ih1 _ _ _ _ _ _ _ _ _ _ _ _ _ _)
   | (with_reducible exact expr_Eval.mono _ _ _ _ _ _)
   | (with_reducible exact malthouselaw11_awake.mono _)
   | (with_reducible exact malthouselaw11_cells.mono _ _)
   | (with_reducible exact malthouseref11_Light.mono _ _)
   | (with_reducible exact prog_Scan.mono _ _ _ _ _)
   | (with_reducible exact LeO.refl _)
   | (with_reducible exact LeO.none _)
   | (with_reducible refine LeO.ite ?_ ?_)
   | (with_reducible refine LeO.bind ?_ (fun _ => ?_))
   | exact ih0 _ _ _ _ _ _ _ _ _ _ _
   | exact ih1 _ _ _ _ _ _ _ _ _ _ _ _ _ _
   | exact expr_Eval.mono _ _ _ _ _ _
   | exact malthouselaw11_awake.mono _
   | exact malthouselaw11_cells.mono _ _
   | exact malthouseref11_Light.mono _ _
   | exact prog_Scan.mono _ _ _ _ _
   | exact LeO.none _
   | refine LeO.ite ?_ ?_
   | refine LeO.bind ?_ (fun _ => ?_)
  ·intro y0 y1 y2 y3 y4 y5 y6 y7 y8 y9 y10 y11 y12 y13
   unfold malthouselaw11_ProgWants.j1
   repeat' first
   | (with_reducible exact ih0 _ _ _ _ _ _ _ _ _ _ _)
   | (with_reducible exact ih1 _ _ _ _ _ _ _ _ _ _ _ _ _ _)
   | (with_reducible exact expr_Eval.mono _ _ _ _ _ _)
   | (with_reducible exact malthouselaw11_awake.mono _)
   | (with_reducible exact malthouselaw11_cells.mono _ _)
   | (with_reducible exact malthouseref11_Light.mono _ _)
   | (with_reducible exact prog_Scan.mono _ _ _ _ _)
   | (with_reducible exact LeO.refl _)
   | (with_reducible exact LeO.none _)
   | (with_reducible refine LeO.ite ?_ ?_)
   | (with_reducible refine LeO.bind ?_ (fun _ => ?_))
   | exact ih0 _ _ _ _ _ _ _ _ _ _ _
   | exact ih1 _ _ _ _ _ _ _ _ _ _ _ _ _ _
   | exact expr_Eval.mono _ _ _ _ _ _
   | exact malthouselaw11_awake.mono _
   | exact malthouselaw11_cells.mono _ _
   | exact malthouseref11_Light.mono _ _
   | exact prog_Scan.mono _ _ _ _ _
   | exact LeO.none _
   | refine LeO.ite ?_ ?_
   | refine LeO.bind ?_ (fun _ => ?_)
theorem malthouselaw11_ProgWants.mono : ∀ a0 a1 a2 a3 a4 a5 a6 a7 a8 k, LeO (malthouselaw11_ProgWants.f k a0 a1 a2 a3 a4 a5 a6 a7 a8) (malthouselaw11_ProgWants.f (k + 1) a0 a1 a2 a3 a4 a5 a6 a7 a8) := by
 intro a0 a1 a2 a3 a4 a5 a6 a7 a8 k
 obtain ⟨ih0, ih1⟩ := malthouselaw11_ProgWants.mono_l k
 unfold malthouselaw11_ProgWants.f
 repeat' first
   | (with_reducible exact ih0 _ _ _ _ _ _ _ _ _ _ _)
   | (with_reducible exact ih1 _ _ _ _ _ _ _ _ _ _ _ _ _ _)
   | (with_reducible exact expr_Eval.mono _ _ _ _ _ _)
   | (with_reducible exact malthouselaw11_awake.mono _)
   | (with_reducible exact malthouselaw11_cells.mono _ _)
   | (with_reducible exact malthouseref11_Light.mono _ _)
   | (with_reducible exact prog_Scan.mono _ _ _ _ _)
   | (with_reducible exact LeO.refl _)
   | (with_reducible exact LeO.none _)
   | (with_reducible refine LeO.ite ?_ ?_)
   | (with_reducible refine LeO.bind ?_ (fun _ => ?_))
   | exact ih0 _ _ _ _ _ _ _ _ _ _ _
   | exact ih1 _ _ _ _ _ _ _ _ _ _ _ _ _ _
   | exact expr_Eval.mono _ _ _ _ _ _
   | exact malthouselaw11_awake.mono _
   | exact malthouselaw11_cells.mono _ _
   | exact malthouseref11_Light.mono _ _
   | exact prog_Scan.mono _ _ _ _ _
   | exact LeO.none _
   | refine LeO.ite ?_ ?_
   | refine LeO.bind ?_ (fun _ => ?_)
set_option maxHeartbeats 8000000 in
set_option maxRecDepth 100000 in
theorem malthouselaw11_ProgWants.calls (k : Nat) (a0_0 : Int) (a0_1 : ByteArray) (a0_2 : ByteArray) (a0_3 : Int) (a0_4 : Int) (a0_5 : ByteArray) (P0_6_ : Nat → Prop) (A0_6 : Option Addr) (c0_6 : Nat) (l0_6 : List (S34)) (a0_7 : Int) (A1 : Option Addr) (c1 : Nat) (l1 : List (S69)) (r : Bool) (w : World) (hs0_6 : Kd.V k34 34 w w.heap.size (fun k_ => P0_6_ k_) (.slice A0_6 l0_6.length c0_6) l0_6) (hr1 : Kd.C k69 w A1 l1.length l1) (hc1 : l1.length ≤ c1) (h : malthouselaw11_ProgWants.f k a0_0 a0_1 a0_2 a0_3 a0_4 a0_5 l0_6 a0_7 l1 = some r) (hT : UT w) (hR : r = true) :
    Calls Tryd.prog 12 #[.agg #[.int .i64 a0_0, .string a0_1, .string a0_2, .int .i64 a0_3, .int .i64 a0_4, .string a0_5, .slice A0_6 l0_6.length c0_6, .int .i64 a0_7], .slice A1 l1.length c1] w fun e w' => e = .returned (.bool r) ∧ Below w.heap.size w w' := by
  have HT0 := Aside0.mk hT
  clear hT
  have HRT := Aside0.mk hR
  clear hR
  have hu67 := Tryd.underlying67
  have hu57 := Tryd.underlying57
  have hu34 := Tryd.underlying34
  have HO0_6 := Aside0.mk (show Kd.V k34 34 w w.heap.size (fun k_ => (P0_6_ k_ ∨ w.heap.size ≤ k_)) (.slice A0_6 l0_6.length c0_6) l0_6 from Kd.V_mono hs0_6 (fun k_ hk => .inl hk))
  have HR1 := Aside0.mk hr1
  have HC1 := Aside0.mk hc1
  clear hr1 hc1
  have HB := Aside0.mk (Below.refl w.heap.size w)
  have H : ((malthouselaw11_awake.f k).bind fun t102 => ((malthouseref11_Light.f k (([(⟨a0_0, a0_1, a0_2, (⟨a0_3, a0_4, a0_5, l0_6⟩ : S34), a0_7⟩ : S67)] : List (S67)))).bind fun t106 => ((malthouselaw11_cells.f k l1).bind fun t107 => (if t102 = true then (if t106 = true then (malthouselaw11_ProgWants.j0 k l1 t102 (!t107) a0_0 a0_1 a0_2 a0_3 a0_4 a0_5 l0_6 a0_7) else (malthouselaw11_ProgWants.j0 k l1 t102 true a0_0 a0_1 a0_2 a0_3 a0_4 a0_5 l0_6 a0_7)) else (malthouselaw11_ProgWants.j0 k l1 t102 true a0_0 a0_1 a0_2 a0_3 a0_4 a0_5 l0_6 a0_7))))) = some r := h
  clear h
  replace H := Option.bind_eq_some_iff.mp H
  obtain ⟨t102, A30, H⟩ := H
  replace H : ((malthouseref11_Light.f k (([(⟨a0_0, a0_1, a0_2, (⟨a0_3, a0_4, a0_5, l0_6⟩ : S34), a0_7⟩ : S67)] : List (S67)))).bind fun t106 => ((malthouselaw11_cells.f k l1).bind fun t107 => (if t102 = true then (if t106 = true then (malthouselaw11_ProgWants.j0 k l1 t102 (!t107) a0_0 a0_1 a0_2 a0_3 a0_4 a0_5 l0_6 a0_7) else (malthouselaw11_ProgWants.j0 k l1 t102 true a0_0 a0_1 a0_2 a0_3 a0_4 a0_5 l0_6 a0_7)) else (malthouselaw11_ProgWants.j0 k l1 t102 true a0_0 a0_1 a0_2 a0_3 a0_4 a0_5 l0_6 a0_7)))) = some r := H
  have A3 := Aside0.mk A30
  clear A30
  obtain ⟨y103, hy103⟩ : ∃ y_ : List (S67), y_ = (([(⟨a0_0, a0_1, a0_2, (⟨a0_3, a0_4, a0_5, l0_6⟩ : S34), a0_7⟩ : S67)] : List (S67))) := ⟨_, rfl⟩
  replace H : ((malthouseref11_Light.f k y103).bind fun t106 => ((malthouselaw11_cells.f k l1).bind fun t107 => (if t102 = true then (if t106 = true then (malthouselaw11_ProgWants.j0 k l1 t102 (!t107) a0_0 a0_1 a0_2 a0_3 a0_4 a0_5 l0_6 a0_7) else (malthouselaw11_ProgWants.j0 k l1 t102 true a0_0 a0_1 a0_2 a0_3 a0_4 a0_5 l0_6 a0_7)) else (malthouselaw11_ProgWants.j0 k l1 t102 true a0_0 a0_1 a0_2 a0_3 a0_4 a0_5 l0_6 a0_7)))) = some r := by first | (rw [hy103]; with_reducible exact H) | (have H2_ := (Option.bind_some _ _).symm.trans H; rw [hy103]; with_reducible exact H2_) | (have H2_ := (Option.bind_some _ _).symm.trans H; with_reducible exact H2_) | with_reducible exact H | (rw [hy103]; exact H) | exact H
  have Ny103 := Aside0.mk hy103
  clear hy103
  replace H := Option.bind_eq_some_iff.mp H
  obtain ⟨t106, A40, H⟩ := H
  replace H : ((malthouselaw11_cells.f k l1).bind fun t107 => (if t102 = true then (if t106 = true then (malthouselaw11_ProgWants.j0 k l1 t102 (!t107) a0_0 a0_1 a0_2 a0_3 a0_4 a0_5 l0_6 a0_7) else (malthouselaw11_ProgWants.j0 k l1 t102 true a0_0 a0_1 a0_2 a0_3 a0_4 a0_5 l0_6 a0_7)) else (malthouselaw11_ProgWants.j0 k l1 t102 true a0_0 a0_1 a0_2 a0_3 a0_4 a0_5 l0_6 a0_7))) = some r := H
  have A4 := Aside0.mk A40
  clear A40
  replace H := Option.bind_eq_some_iff.mp H
  obtain ⟨t107, A50, H⟩ := H
  replace H : (if t102 = true then (if t106 = true then (malthouselaw11_ProgWants.j0 k l1 t102 (!t107) a0_0 a0_1 a0_2 a0_3 a0_4 a0_5 l0_6 a0_7) else (malthouselaw11_ProgWants.j0 k l1 t102 true a0_0 a0_1 a0_2 a0_3 a0_4 a0_5 l0_6 a0_7)) else (malthouselaw11_ProgWants.j0 k l1 t102 true a0_0 a0_1 a0_2 a0_3 a0_4 a0_5 l0_6 a0_7)) = some r := H
  have A5 := Aside0.mk A50
  clear A50
  have HC6 := Aside0.mk H
  clear H
  go_enter Tryd.func12, Tryd.ntmps12
  go_upto_region 4 with (first | ((with_reducible refine gate_dst (N := 2) rfl ?_); (try (refine gate_guard (by rfl) ?_; dsimp only)); refine box_event ?hg (N := 2) ?hd (cs := #[.int .i64 a0_0, .string a0_1, .string a0_2, .int .i64 a0_3, .int .i64 a0_4, .string a0_5, .slice A0_6 l0_6.length c0_6, .int .i64 a0_7]) (t := 67) ?hr ?_; (case hd => rfl); (case hg => rfl); (case hr => first | (go_simp; done) | (go_simp; rfl)); intro gb101 hg w7 hbox hb; have n0_ := Aside0.mk (Kd.V_below (Kd.V_elderB (by (with_reducible repeat (first | apply Kd.V_alloc | apply Kd.V_drewN | apply Kd.V_drew)); exact HO0_6.out) gb101 (Nat.le_of_eq hg.symm)) hb); have n1_ := Aside0.mk (below_step (by repeat (first | (with_reducible first | exact HB.out | apply below_alloc | apply pw_below_drewN | apply below_drew1) | exact HB.out)) hb); have n2_ := Aside0.mk (hbox); have n3_ := Aside0.mk ((by rw [hg]; exact (below_size (by repeat (first | (with_reducible first | exact HB.out | apply below_alloc | apply pw_below_drewN | apply below_drew1) | exact HB.out))) : w.heap.size ≤ gb101)); have n4_ := Aside0.mk ((by rw [hg]; exact (below_size (by repeat (first | (with_reducible first | exact HB.out | apply below_alloc | apply pw_below_drewN | apply below_drew1) | exact HB.out))) : w.heap.size ≤ gb101)); clear HO0_6; clear HB; have HO0_6 := n0_; have HB := n1_; have BK101 := n2_; have GW101 := n3_; have GE101 := n4_; clear n0_ n1_ n2_ n3_ n4_; clear hb hbox hg) | (go_at_call 35; (with_reducible refine (malthouselaw11_awake.calls k  t102 _ A3.out (by first | exact HT0.out | exact UT.below HT0.out (by repeat (first | (with_reducible first | exact HB.out | apply below_alloc | apply pw_below_drewN | apply below_drew1 | refine below_set ?_ GE101.out) | exact HB.out))) (malthouselaw11_awake_r A3.out)).mono ?_); rintro e w8 ⟨rfl, hb⟩; have n0_ := Aside0.mk (Kd.V_below (by (with_reducible repeat (first | apply Kd.V_alloc | apply Kd.V_drewN | apply Kd.V_drew)); exact HO0_6.out) hb); have n1_ := Aside0.mk (blk_below (g := gb101) (o := .cells #[.int .i64 a0_0, .string a0_1, .string a0_2, .int .i64 a0_3, .int .i64 a0_4, .string a0_5, .slice A0_6 l0_6.length c0_6, .int .i64 a0_7] 67 (0, 0)) (by (with_reducible repeat (first | refine blk_drewN ?_ _ | refine blk_drew ?_ | refine blk_alloc ?_ _)); exact BK101.out) hb); have n2_ := Aside0.mk (below_step (by repeat (first | (with_reducible first | exact HB.out | apply below_alloc | apply pw_below_drewN | apply below_drew1 | refine below_set ?_ GE101.out) | exact HB.out)) hb); clear HO0_6; clear BK101; clear HB; have HO0_6 := n0_; have BK101 := n1_; have HB := n2_; clear n0_ n1_ n2_; (try clear hb); (try clear hb2); (try clear hk); (try clear hi); have hcz9_0 : w8.cell? ⟨gb101, 0, none⟩ = some (.int .i64 a0_0) := (blk_cell BK101.out 0).trans rfl; have hcz9_1 : w8.cell? ⟨gb101, 1, none⟩ = some (.string a0_1) := (blk_cell BK101.out 1).trans rfl; have hcz9_2 : w8.cell? ⟨gb101, 2, none⟩ = some (.string a0_2) := (blk_cell BK101.out 2).trans rfl; have hcz9_3 : w8.cell? ⟨gb101, 3, none⟩ = some (.int .i64 a0_3) := (blk_cell BK101.out 3).trans rfl; have hcz9_4 : w8.cell? ⟨gb101, 4, none⟩ = some (.int .i64 a0_4) := (blk_cell BK101.out 4).trans rfl; have hcz9_5 : w8.cell? ⟨gb101, 5, none⟩ = some (.string a0_5) := (blk_cell BK101.out 5).trans rfl; have hcz9_6 : w8.cell? ⟨gb101, 6, none⟩ = some (.slice A0_6 l0_6.length c0_6) := (blk_cell BK101.out 6).trans rfl; have hcz9_7 : w8.cell? ⟨gb101, 7, none⟩ = some (.int .i64 a0_7) := (blk_cell BK101.out 7).trans rfl; have hfz9_0 := blk_frozen BK101.out 0; have hfz9_1 := blk_frozen BK101.out 1; have hfz9_2 := blk_frozen BK101.out 2; have hfz9_3 := blk_frozen BK101.out 3; have hfz9_4 := blk_frozen BK101.out 4; have hfz9_5 := blk_frozen BK101.out 5; have hfz9_6 := blk_frozen BK101.out 6; have hfz9_7 := blk_frozen BK101.out 7) | ((with_reducible refine gate_dst (N := 16) rfl ?_); (try (refine gate_guard (by rfl) ?_; dsimp only)); refine Kd.N_lit k67 _ 67 ?hg (N' := 16) ?hd (xs := ([(⟨a0_0, a0_1, a0_2, (⟨a0_3, a0_4, a0_5, l0_6⟩ : S34), a0_7⟩ : S67)] : List (S67))) (inner := [.int .i64 a0_0, .string a0_1, .string a0_2, .int .i64 a0_3, .int .i64 a0_4, .string a0_5, .slice A0_6 l0_6.length c0_6, .int .i64 a0_7]) (ok := (fun k_ => (P0_6_ k_ ∨ w.heap.size ≤ k_) ∧ k_ ≠ gb101)) (okp := (fun k_ => (P0_6_ k_ ∨ w.heap.size ≤ k_) ∧ k_ ≠ gb101)) ?hr ?hp (fun _ hk => hk) ((show ∀ k_, w8.heap.size ≤ k_ → (fun k_ => (P0_6_ k_ ∨ w.heap.size ≤ k_) ∧ k_ ≠ gb101) k_ from fun k_ hk => ⟨(.inr (Nat.le_trans (below_size (by repeat (first | (with_reducible first | exact HB.out | apply below_alloc | apply pw_below_drewN | apply below_drew1 | refine below_set ?_ GE101.out) | exact HB.out))) hk)), Kd.freshB (g := gb101) (o := .cells #[.int .i64 a0_0, .string a0_1, .string a0_2, .int .i64 a0_3, .int .i64 a0_4, .string a0_5, .slice A0_6 l0_6.length c0_6, .int .i64 a0_7] 67 (0, 0)) (by (with_reducible repeat (first | refine blk_drewN ?_ _ | refine blk_drew ?_ | refine blk_alloc ?_ _)); exact BK101.out) k_ hk⟩) _ (Nat.le_refl _)) (Below.refl _ _) (Nat.le_refl _) (by simp) ?_; (case hd => rfl); (case hg => rfl); (case hr => first | (go_simp; done) | (go_simp; rfl)); (case hp => exact (Reps.c8 (show Kd.FK k67 _ _ (⟨a0_0, a0_1, a0_2, (⟨a0_3, a0_4, a0_5, l0_6⟩ : S34), a0_7⟩ : S67) [.int .i64 a0_0, .string a0_1, .string a0_2, .int .i64 a0_3, .int .i64 a0_4, .string a0_5, .slice A0_6 l0_6.length c0_6, .int .i64 a0_7] from (k67_mkF _ _ (⟨a0_0, a0_1, a0_2, (⟨a0_3, a0_4, a0_5, l0_6⟩ : S34), a0_7⟩ : S67) (Kd.V_reads' (Kd.V_mono (ok' := (fun k_ => (P0_6_ k_ ∨ w.heap.size ≤ k_) ∧ k_ ≠ gb101)) (HO0_6.out) (fun k_ hk => ⟨hk.1, hk.2⟩))).2.1 (Kd.V_F (Kd.V_mono (ok' := (fun k_ => (P0_6_ k_ ∨ w.heap.size ≤ k_) ∧ k_ ≠ gb101)) (HO0_6.out) (fun k_ hk => ⟨hk.1, hk.2⟩))))) (Reps.none _ _))); intro v104 w10 ho11 hb hg_ hnew_; clear hg_ hnew_; (first | rw [← Ny103.out] at ho11 | (simp only [Int.reduceToNat] at ho11; rw [← Ny103.out] at ho11)); have n0_ := Aside0.mk (Kd.V_elder' (by (with_reducible repeat (first | apply Kd.V_alloc | apply Kd.V_drewN | apply Kd.V_drew)); exact HO0_6.out) (Kd.N_base ho11) hb); have n1_ := Aside0.mk (Kd.N_lower ho11 (below_size (by repeat (first | (with_reducible first | exact HB.out | apply below_alloc | apply pw_below_drewN | apply below_drew1 | refine below_set ?_ GE101.out) | exact HB.out)))); have n2_ := Aside0.mk (blk_below (g := gb101) (o := .cells #[.int .i64 a0_0, .string a0_1, .string a0_2, .int .i64 a0_3, .int .i64 a0_4, .string a0_5, .slice A0_6 l0_6.length c0_6, .int .i64 a0_7] 67 (0, 0)) (by (with_reducible repeat (first | refine blk_drewN ?_ _ | refine blk_drew ?_ | refine blk_alloc ?_ _)); exact BK101.out) hb); have n3_ := Aside0.mk (below_step (by repeat (first | (with_reducible first | exact HB.out | apply below_alloc | apply pw_below_drewN | apply below_drew1 | refine below_set ?_ GE101.out) | exact HB.out)) hb); clear HO0_6; clear BK101; clear HB; have HO0_6 := n0_; have HO105 := n1_; have BK101 := n2_; have HB := n3_; clear n0_ n1_ n2_ n3_; clear hb ho11; obtain ⟨Ao12, co12, eo12⟩ := Kd.N_slice HO105.out; subst eo12) | (go_at_call 36; (with_reducible refine (malthouseref11_Light.calls k _ _ y103 t106 _ ?side1 ?side2 A4.out).mono ?_); (case side1 => repeat (first | exact (Kd.N_reads' HO105.out).2.2 | (with_reducible refine Kd.C_alloc ?_ _) | (with_reducible refine Kd.C_drewN ?_ _) | (with_reducible refine Kd.C_drew ?_))); (case side2 => exact (Kd.N_reads' HO105.out).2.1); rintro e w13 ⟨rfl, hb⟩; have n0_ := Aside0.mk (Kd.V_below (by (with_reducible repeat (first | apply Kd.V_alloc | apply Kd.V_drewN | apply Kd.V_drew)); exact HO0_6.out) hb); have n1_ := Aside0.mk (Kd.N_below (by (with_reducible repeat (first | apply Kd.N_alloc | apply Kd.N_drewN | apply Kd.N_drew)); exact HO105.out) hb); have n2_ := Aside0.mk (blk_below (g := gb101) (o := .cells #[.int .i64 a0_0, .string a0_1, .string a0_2, .int .i64 a0_3, .int .i64 a0_4, .string a0_5, .slice A0_6 l0_6.length c0_6, .int .i64 a0_7] 67 (0, 0)) (by (with_reducible repeat (first | refine blk_drewN ?_ _ | refine blk_drew ?_ | refine blk_alloc ?_ _)); exact BK101.out) hb); have n3_ := Aside0.mk (below_step (by repeat (first | (with_reducible first | exact HB.out | apply below_alloc | apply pw_below_drewN | apply below_drew1 | refine below_set ?_ GE101.out) | exact HB.out)) hb); clear HO0_6; clear HO105; clear BK101; clear HB; have HO0_6 := n0_; have HO105 := n1_; have BK101 := n2_; have HB := n3_; clear n0_ n1_ n2_ n3_; (try clear hb); (try clear hb2); (try clear hk); (try clear hi)) | (go_at_call 37; (with_reducible refine (malthouselaw11_cells.calls k _ _ l1 t107 _ ?side1 ?side2 A5.out).mono ?_); (case side1 => repeat (first | exact (Kd.C_below HR1.out HB.out) | (with_reducible refine Kd.C_alloc ?_ _) | (with_reducible refine Kd.C_drewN ?_ _) | (with_reducible refine Kd.C_drew ?_))); (case side2 => exact HC1.out); rintro e w' ⟨rfl, ⟨nd, rfl⟩⟩; (try first | exact ⟨rfl, _, World.drewN_drewN _ _ _⟩ | exact ⟨rfl, _, Eq.trans (World.drewN_drewN _ _ _) (congrArg (World.drewN _) (Nat.add_assoc _ _ _))⟩)))
  repeat (go_quiet (first | ((with_reducible refine gate_dst (N := 2) rfl ?_); (try (refine gate_guard (by rfl) ?_; dsimp only)); refine box_event ?hg (N := 2) ?hd (cs := #[.int .i64 a0_0, .string a0_1, .string a0_2, .int .i64 a0_3, .int .i64 a0_4, .string a0_5, .slice A0_6 l0_6.length c0_6, .int .i64 a0_7]) (t := 67) ?hr ?_; (case hd => rfl); (case hg => rfl); (case hr => first | (go_simp; done) | (go_simp; rfl)); intro gb101 hg w7 hbox hb; have n0_ := Aside0.mk (Kd.V_below (Kd.V_elderB (by (with_reducible repeat (first | apply Kd.V_alloc | apply Kd.V_drewN | apply Kd.V_drew)); exact HO0_6.out) gb101 (Nat.le_of_eq hg.symm)) hb); have n1_ := Aside0.mk (below_step (by repeat (first | (with_reducible first | exact HB.out | apply below_alloc | apply pw_below_drewN | apply below_drew1) | exact HB.out)) hb); have n2_ := Aside0.mk (hbox); have n3_ := Aside0.mk ((by rw [hg]; exact (below_size (by repeat (first | (with_reducible first | exact HB.out | apply below_alloc | apply pw_below_drewN | apply below_drew1) | exact HB.out))) : w.heap.size ≤ gb101)); have n4_ := Aside0.mk ((by rw [hg]; exact (below_size (by repeat (first | (with_reducible first | exact HB.out | apply below_alloc | apply pw_below_drewN | apply below_drew1) | exact HB.out))) : w.heap.size ≤ gb101)); clear HO0_6; clear HB; have HO0_6 := n0_; have HB := n1_; have BK101 := n2_; have GW101 := n3_; have GE101 := n4_; clear n0_ n1_ n2_ n3_ n4_; clear hb hbox hg) | (go_at_call 35; (with_reducible refine (malthouselaw11_awake.calls k  t102 _ A3.out (by first | exact HT0.out | exact UT.below HT0.out (by repeat (first | (with_reducible first | exact HB.out | apply below_alloc | apply pw_below_drewN | apply below_drew1 | refine below_set ?_ GE101.out) | exact HB.out))) (malthouselaw11_awake_r A3.out)).mono ?_); rintro e w8 ⟨rfl, hb⟩; have n0_ := Aside0.mk (Kd.V_below (by (with_reducible repeat (first | apply Kd.V_alloc | apply Kd.V_drewN | apply Kd.V_drew)); exact HO0_6.out) hb); have n1_ := Aside0.mk (blk_below (g := gb101) (o := .cells #[.int .i64 a0_0, .string a0_1, .string a0_2, .int .i64 a0_3, .int .i64 a0_4, .string a0_5, .slice A0_6 l0_6.length c0_6, .int .i64 a0_7] 67 (0, 0)) (by (with_reducible repeat (first | refine blk_drewN ?_ _ | refine blk_drew ?_ | refine blk_alloc ?_ _)); exact BK101.out) hb); have n2_ := Aside0.mk (below_step (by repeat (first | (with_reducible first | exact HB.out | apply below_alloc | apply pw_below_drewN | apply below_drew1 | refine below_set ?_ GE101.out) | exact HB.out)) hb); clear HO0_6; clear BK101; clear HB; have HO0_6 := n0_; have BK101 := n1_; have HB := n2_; clear n0_ n1_ n2_; (try clear hb); (try clear hb2); (try clear hk); (try clear hi); have hcz9_0 : w8.cell? ⟨gb101, 0, none⟩ = some (.int .i64 a0_0) := (blk_cell BK101.out 0).trans rfl; have hcz9_1 : w8.cell? ⟨gb101, 1, none⟩ = some (.string a0_1) := (blk_cell BK101.out 1).trans rfl; have hcz9_2 : w8.cell? ⟨gb101, 2, none⟩ = some (.string a0_2) := (blk_cell BK101.out 2).trans rfl; have hcz9_3 : w8.cell? ⟨gb101, 3, none⟩ = some (.int .i64 a0_3) := (blk_cell BK101.out 3).trans rfl; have hcz9_4 : w8.cell? ⟨gb101, 4, none⟩ = some (.int .i64 a0_4) := (blk_cell BK101.out 4).trans rfl; have hcz9_5 : w8.cell? ⟨gb101, 5, none⟩ = some (.string a0_5) := (blk_cell BK101.out 5).trans rfl; have hcz9_6 : w8.cell? ⟨gb101, 6, none⟩ = some (.slice A0_6 l0_6.length c0_6) := (blk_cell BK101.out 6).trans rfl; have hcz9_7 : w8.cell? ⟨gb101, 7, none⟩ = some (.int .i64 a0_7) := (blk_cell BK101.out 7).trans rfl; have hfz9_0 := blk_frozen BK101.out 0; have hfz9_1 := blk_frozen BK101.out 1; have hfz9_2 := blk_frozen BK101.out 2; have hfz9_3 := blk_frozen BK101.out 3; have hfz9_4 := blk_frozen BK101.out 4; have hfz9_5 := blk_frozen BK101.out 5; have hfz9_6 := blk_frozen BK101.out 6; have hfz9_7 := blk_frozen BK101.out 7) | ((with_reducible refine gate_dst (N := 16) rfl ?_); (try (refine gate_guard (by rfl) ?_; dsimp only)); refine Kd.N_lit k67 _ 67 ?hg (N' := 16) ?hd (xs := ([(⟨a0_0, a0_1, a0_2, (⟨a0_3, a0_4, a0_5, l0_6⟩ : S34), a0_7⟩ : S67)] : List (S67))) (inner := [.int .i64 a0_0, .string a0_1, .string a0_2, .int .i64 a0_3, .int .i64 a0_4, .string a0_5, .slice A0_6 l0_6.length c0_6, .int .i64 a0_7]) (ok := (fun k_ => (P0_6_ k_ ∨ w.heap.size ≤ k_) ∧ k_ ≠ gb101)) (okp := (fun k_ => (P0_6_ k_ ∨ w.heap.size ≤ k_) ∧ k_ ≠ gb101)) ?hr ?hp (fun _ hk => hk) ((show ∀ k_, w8.heap.size ≤ k_ → (fun k_ => (P0_6_ k_ ∨ w.heap.size ≤ k_) ∧ k_ ≠ gb101) k_ from fun k_ hk => ⟨(.inr (Nat.le_trans (below_size (by repeat (first | (with_reducible first | exact HB.out | apply below_alloc | apply pw_below_drewN | apply below_drew1 | refine below_set ?_ GE101.out) | exact HB.out))) hk)), Kd.freshB (g := gb101) (o := .cells #[.int .i64 a0_0, .string a0_1, .string a0_2, .int .i64 a0_3, .int .i64 a0_4, .string a0_5, .slice A0_6 l0_6.length c0_6, .int .i64 a0_7] 67 (0, 0)) (by (with_reducible repeat (first | refine blk_drewN ?_ _ | refine blk_drew ?_ | refine blk_alloc ?_ _)); exact BK101.out) k_ hk⟩) _ (Nat.le_refl _)) (Below.refl _ _) (Nat.le_refl _) (by simp) ?_; (case hd => rfl); (case hg => rfl); (case hr => first | (go_simp; done) | (go_simp; rfl)); (case hp => exact (Reps.c8 (show Kd.FK k67 _ _ (⟨a0_0, a0_1, a0_2, (⟨a0_3, a0_4, a0_5, l0_6⟩ : S34), a0_7⟩ : S67) [.int .i64 a0_0, .string a0_1, .string a0_2, .int .i64 a0_3, .int .i64 a0_4, .string a0_5, .slice A0_6 l0_6.length c0_6, .int .i64 a0_7] from (k67_mkF _ _ (⟨a0_0, a0_1, a0_2, (⟨a0_3, a0_4, a0_5, l0_6⟩ : S34), a0_7⟩ : S67) (Kd.V_reads' (Kd.V_mono (ok' := (fun k_ => (P0_6_ k_ ∨ w.heap.size ≤ k_) ∧ k_ ≠ gb101)) (HO0_6.out) (fun k_ hk => ⟨hk.1, hk.2⟩))).2.1 (Kd.V_F (Kd.V_mono (ok' := (fun k_ => (P0_6_ k_ ∨ w.heap.size ≤ k_) ∧ k_ ≠ gb101)) (HO0_6.out) (fun k_ hk => ⟨hk.1, hk.2⟩))))) (Reps.none _ _))); intro v104 w10 ho11 hb hg_ hnew_; clear hg_ hnew_; (first | rw [← Ny103.out] at ho11 | (simp only [Int.reduceToNat] at ho11; rw [← Ny103.out] at ho11)); have n0_ := Aside0.mk (Kd.V_elder' (by (with_reducible repeat (first | apply Kd.V_alloc | apply Kd.V_drewN | apply Kd.V_drew)); exact HO0_6.out) (Kd.N_base ho11) hb); have n1_ := Aside0.mk (Kd.N_lower ho11 (below_size (by repeat (first | (with_reducible first | exact HB.out | apply below_alloc | apply pw_below_drewN | apply below_drew1 | refine below_set ?_ GE101.out) | exact HB.out)))); have n2_ := Aside0.mk (blk_below (g := gb101) (o := .cells #[.int .i64 a0_0, .string a0_1, .string a0_2, .int .i64 a0_3, .int .i64 a0_4, .string a0_5, .slice A0_6 l0_6.length c0_6, .int .i64 a0_7] 67 (0, 0)) (by (with_reducible repeat (first | refine blk_drewN ?_ _ | refine blk_drew ?_ | refine blk_alloc ?_ _)); exact BK101.out) hb); have n3_ := Aside0.mk (below_step (by repeat (first | (with_reducible first | exact HB.out | apply below_alloc | apply pw_below_drewN | apply below_drew1 | refine below_set ?_ GE101.out) | exact HB.out)) hb); clear HO0_6; clear BK101; clear HB; have HO0_6 := n0_; have HO105 := n1_; have BK101 := n2_; have HB := n3_; clear n0_ n1_ n2_ n3_; clear hb ho11; obtain ⟨Ao12, co12, eo12⟩ := Kd.N_slice HO105.out; subst eo12) | (go_at_call 36; (with_reducible refine (malthouseref11_Light.calls k _ _ y103 t106 _ ?side1 ?side2 A4.out).mono ?_); (case side1 => repeat (first | exact (Kd.N_reads' HO105.out).2.2 | (with_reducible refine Kd.C_alloc ?_ _) | (with_reducible refine Kd.C_drewN ?_ _) | (with_reducible refine Kd.C_drew ?_))); (case side2 => exact (Kd.N_reads' HO105.out).2.1); rintro e w13 ⟨rfl, hb⟩; have n0_ := Aside0.mk (Kd.V_below (by (with_reducible repeat (first | apply Kd.V_alloc | apply Kd.V_drewN | apply Kd.V_drew)); exact HO0_6.out) hb); have n1_ := Aside0.mk (Kd.N_below (by (with_reducible repeat (first | apply Kd.N_alloc | apply Kd.N_drewN | apply Kd.N_drew)); exact HO105.out) hb); have n2_ := Aside0.mk (blk_below (g := gb101) (o := .cells #[.int .i64 a0_0, .string a0_1, .string a0_2, .int .i64 a0_3, .int .i64 a0_4, .string a0_5, .slice A0_6 l0_6.length c0_6, .int .i64 a0_7] 67 (0, 0)) (by (with_reducible repeat (first | refine blk_drewN ?_ _ | refine blk_drew ?_ | refine blk_alloc ?_ _)); exact BK101.out) hb); have n3_ := Aside0.mk (below_step (by repeat (first | (with_reducible first | exact HB.out | apply below_alloc | apply pw_below_drewN | apply below_drew1 | refine below_set ?_ GE101.out) | exact HB.out)) hb); clear HO0_6; clear HO105; clear BK101; clear HB; have HO0_6 := n0_; have HO105 := n1_; have BK101 := n2_; have HB := n3_; clear n0_ n1_ n2_ n3_; (try clear hb); (try clear hb2); (try clear hk); (try clear hi)) | (go_at_call 37; (with_reducible refine (malthouselaw11_cells.calls k _ _ l1 t107 _ ?side1 ?side2 A5.out).mono ?_); (case side1 => repeat (first | exact (Kd.C_below HR1.out HB.out) | (with_reducible refine Kd.C_alloc ?_ _) | (with_reducible refine Kd.C_drewN ?_ _) | (with_reducible refine Kd.C_drew ?_))); (case side2 => exact HC1.out); rintro e w' ⟨rfl, ⟨nd, rfl⟩⟩; (try first | exact ⟨rfl, _, World.drewN_drewN _ _ _⟩ | exact ⟨rfl, _, Eq.trans (World.drewN_drewN _ _ _) (congrArg (World.drewN _) (Nat.add_assoc _ _ _))⟩))); go_upto_region 4 with (first | ((with_reducible refine gate_dst (N := 2) rfl ?_); (try (refine gate_guard (by rfl) ?_; dsimp only)); refine box_event ?hg (N := 2) ?hd (cs := #[.int .i64 a0_0, .string a0_1, .string a0_2, .int .i64 a0_3, .int .i64 a0_4, .string a0_5, .slice A0_6 l0_6.length c0_6, .int .i64 a0_7]) (t := 67) ?hr ?_; (case hd => rfl); (case hg => rfl); (case hr => first | (go_simp; done) | (go_simp; rfl)); intro gb101 hg w7 hbox hb; have n0_ := Aside0.mk (Kd.V_below (Kd.V_elderB (by (with_reducible repeat (first | apply Kd.V_alloc | apply Kd.V_drewN | apply Kd.V_drew)); exact HO0_6.out) gb101 (Nat.le_of_eq hg.symm)) hb); have n1_ := Aside0.mk (below_step (by repeat (first | (with_reducible first | exact HB.out | apply below_alloc | apply pw_below_drewN | apply below_drew1) | exact HB.out)) hb); have n2_ := Aside0.mk (hbox); have n3_ := Aside0.mk ((by rw [hg]; exact (below_size (by repeat (first | (with_reducible first | exact HB.out | apply below_alloc | apply pw_below_drewN | apply below_drew1) | exact HB.out))) : w.heap.size ≤ gb101)); have n4_ := Aside0.mk ((by rw [hg]; exact (below_size (by repeat (first | (with_reducible first | exact HB.out | apply below_alloc | apply pw_below_drewN | apply below_drew1) | exact HB.out))) : w.heap.size ≤ gb101)); clear HO0_6; clear HB; have HO0_6 := n0_; have HB := n1_; have BK101 := n2_; have GW101 := n3_; have GE101 := n4_; clear n0_ n1_ n2_ n3_ n4_; clear hb hbox hg) | (go_at_call 35; (with_reducible refine (malthouselaw11_awake.calls k  t102 _ A3.out (by first | exact HT0.out | exact UT.below HT0.out (by repeat (first | (with_reducible first | exact HB.out | apply below_alloc | apply pw_below_drewN | apply below_drew1 | refine below_set ?_ GE101.out) | exact HB.out))) (malthouselaw11_awake_r A3.out)).mono ?_); rintro e w8 ⟨rfl, hb⟩; have n0_ := Aside0.mk (Kd.V_below (by (with_reducible repeat (first | apply Kd.V_alloc | apply Kd.V_drewN | apply Kd.V_drew)); exact HO0_6.out) hb); have n1_ := Aside0.mk (blk_below (g := gb101) (o := .cells #[.int .i64 a0_0, .string a0_1, .string a0_2, .int .i64 a0_3, .int .i64 a0_4, .string a0_5, .slice A0_6 l0_6.length c0_6, .int .i64 a0_7] 67 (0, 0)) (by (with_reducible repeat (first | refine blk_drewN ?_ _ | refine blk_drew ?_ | refine blk_alloc ?_ _)); exact BK101.out) hb); have n2_ := Aside0.mk (below_step (by repeat (first | (with_reducible first | exact HB.out | apply below_alloc | apply pw_below_drewN | apply below_drew1 | refine below_set ?_ GE101.out) | exact HB.out)) hb); clear HO0_6; clear BK101; clear HB; have HO0_6 := n0_; have BK101 := n1_; have HB := n2_; clear n0_ n1_ n2_; (try clear hb); (try clear hb2); (try clear hk); (try clear hi); have hcz9_0 : w8.cell? ⟨gb101, 0, none⟩ = some (.int .i64 a0_0) := (blk_cell BK101.out 0).trans rfl; have hcz9_1 : w8.cell? ⟨gb101, 1, none⟩ = some (.string a0_1) := (blk_cell BK101.out 1).trans rfl; have hcz9_2 : w8.cell? ⟨gb101, 2, none⟩ = some (.string a0_2) := (blk_cell BK101.out 2).trans rfl; have hcz9_3 : w8.cell? ⟨gb101, 3, none⟩ = some (.int .i64 a0_3) := (blk_cell BK101.out 3).trans rfl; have hcz9_4 : w8.cell? ⟨gb101, 4, none⟩ = some (.int .i64 a0_4) := (blk_cell BK101.out 4).trans rfl; have hcz9_5 : w8.cell? ⟨gb101, 5, none⟩ = some (.string a0_5) := (blk_cell BK101.out 5).trans rfl; have hcz9_6 : w8.cell? ⟨gb101, 6, none⟩ = some (.slice A0_6 l0_6.length c0_6) := (blk_cell BK101.out 6).trans rfl; have hcz9_7 : w8.cell? ⟨gb101, 7, none⟩ = some (.int .i64 a0_7) := (blk_cell BK101.out 7).trans rfl; have hfz9_0 := blk_frozen BK101.out 0; have hfz9_1 := blk_frozen BK101.out 1; have hfz9_2 := blk_frozen BK101.out 2; have hfz9_3 := blk_frozen BK101.out 3; have hfz9_4 := blk_frozen BK101.out 4; have hfz9_5 := blk_frozen BK101.out 5; have hfz9_6 := blk_frozen BK101.out 6; have hfz9_7 := blk_frozen BK101.out 7) | ((with_reducible refine gate_dst (N := 16) rfl ?_); (try (refine gate_guard (by rfl) ?_; dsimp only)); refine Kd.N_lit k67 _ 67 ?hg (N' := 16) ?hd (xs := ([(⟨a0_0, a0_1, a0_2, (⟨a0_3, a0_4, a0_5, l0_6⟩ : S34), a0_7⟩ : S67)] : List (S67))) (inner := [.int .i64 a0_0, .string a0_1, .string a0_2, .int .i64 a0_3, .int .i64 a0_4, .string a0_5, .slice A0_6 l0_6.length c0_6, .int .i64 a0_7]) (ok := (fun k_ => (P0_6_ k_ ∨ w.heap.size ≤ k_) ∧ k_ ≠ gb101)) (okp := (fun k_ => (P0_6_ k_ ∨ w.heap.size ≤ k_) ∧ k_ ≠ gb101)) ?hr ?hp (fun _ hk => hk) ((show ∀ k_, w8.heap.size ≤ k_ → (fun k_ => (P0_6_ k_ ∨ w.heap.size ≤ k_) ∧ k_ ≠ gb101) k_ from fun k_ hk => ⟨(.inr (Nat.le_trans (below_size (by repeat (first | (with_reducible first | exact HB.out | apply below_alloc | apply pw_below_drewN | apply below_drew1 | refine below_set ?_ GE101.out) | exact HB.out))) hk)), Kd.freshB (g := gb101) (o := .cells #[.int .i64 a0_0, .string a0_1, .string a0_2, .int .i64 a0_3, .int .i64 a0_4, .string a0_5, .slice A0_6 l0_6.length c0_6, .int .i64 a0_7] 67 (0, 0)) (by (with_reducible repeat (first | refine blk_drewN ?_ _ | refine blk_drew ?_ | refine blk_alloc ?_ _)); exact BK101.out) k_ hk⟩) _ (Nat.le_refl _)) (Below.refl _ _) (Nat.le_refl _) (by simp) ?_; (case hd => rfl); (case hg => rfl); (case hr => first | (go_simp; done) | (go_simp; rfl)); (case hp => exact (Reps.c8 (show Kd.FK k67 _ _ (⟨a0_0, a0_1, a0_2, (⟨a0_3, a0_4, a0_5, l0_6⟩ : S34), a0_7⟩ : S67) [.int .i64 a0_0, .string a0_1, .string a0_2, .int .i64 a0_3, .int .i64 a0_4, .string a0_5, .slice A0_6 l0_6.length c0_6, .int .i64 a0_7] from (k67_mkF _ _ (⟨a0_0, a0_1, a0_2, (⟨a0_3, a0_4, a0_5, l0_6⟩ : S34), a0_7⟩ : S67) (Kd.V_reads' (Kd.V_mono (ok' := (fun k_ => (P0_6_ k_ ∨ w.heap.size ≤ k_) ∧ k_ ≠ gb101)) (HO0_6.out) (fun k_ hk => ⟨hk.1, hk.2⟩))).2.1 (Kd.V_F (Kd.V_mono (ok' := (fun k_ => (P0_6_ k_ ∨ w.heap.size ≤ k_) ∧ k_ ≠ gb101)) (HO0_6.out) (fun k_ hk => ⟨hk.1, hk.2⟩))))) (Reps.none _ _))); intro v104 w10 ho11 hb hg_ hnew_; clear hg_ hnew_; (first | rw [← Ny103.out] at ho11 | (simp only [Int.reduceToNat] at ho11; rw [← Ny103.out] at ho11)); have n0_ := Aside0.mk (Kd.V_elder' (by (with_reducible repeat (first | apply Kd.V_alloc | apply Kd.V_drewN | apply Kd.V_drew)); exact HO0_6.out) (Kd.N_base ho11) hb); have n1_ := Aside0.mk (Kd.N_lower ho11 (below_size (by repeat (first | (with_reducible first | exact HB.out | apply below_alloc | apply pw_below_drewN | apply below_drew1 | refine below_set ?_ GE101.out) | exact HB.out)))); have n2_ := Aside0.mk (blk_below (g := gb101) (o := .cells #[.int .i64 a0_0, .string a0_1, .string a0_2, .int .i64 a0_3, .int .i64 a0_4, .string a0_5, .slice A0_6 l0_6.length c0_6, .int .i64 a0_7] 67 (0, 0)) (by (with_reducible repeat (first | refine blk_drewN ?_ _ | refine blk_drew ?_ | refine blk_alloc ?_ _)); exact BK101.out) hb); have n3_ := Aside0.mk (below_step (by repeat (first | (with_reducible first | exact HB.out | apply below_alloc | apply pw_below_drewN | apply below_drew1 | refine below_set ?_ GE101.out) | exact HB.out)) hb); clear HO0_6; clear BK101; clear HB; have HO0_6 := n0_; have HO105 := n1_; have BK101 := n2_; have HB := n3_; clear n0_ n1_ n2_ n3_; clear hb ho11; obtain ⟨Ao12, co12, eo12⟩ := Kd.N_slice HO105.out; subst eo12) | (go_at_call 36; (with_reducible refine (malthouseref11_Light.calls k _ _ y103 t106 _ ?side1 ?side2 A4.out).mono ?_); (case side1 => repeat (first | exact (Kd.N_reads' HO105.out).2.2 | (with_reducible refine Kd.C_alloc ?_ _) | (with_reducible refine Kd.C_drewN ?_ _) | (with_reducible refine Kd.C_drew ?_))); (case side2 => exact (Kd.N_reads' HO105.out).2.1); rintro e w13 ⟨rfl, hb⟩; have n0_ := Aside0.mk (Kd.V_below (by (with_reducible repeat (first | apply Kd.V_alloc | apply Kd.V_drewN | apply Kd.V_drew)); exact HO0_6.out) hb); have n1_ := Aside0.mk (Kd.N_below (by (with_reducible repeat (first | apply Kd.N_alloc | apply Kd.N_drewN | apply Kd.N_drew)); exact HO105.out) hb); have n2_ := Aside0.mk (blk_below (g := gb101) (o := .cells #[.int .i64 a0_0, .string a0_1, .string a0_2, .int .i64 a0_3, .int .i64 a0_4, .string a0_5, .slice A0_6 l0_6.length c0_6, .int .i64 a0_7] 67 (0, 0)) (by (with_reducible repeat (first | refine blk_drewN ?_ _ | refine blk_drew ?_ | refine blk_alloc ?_ _)); exact BK101.out) hb); have n3_ := Aside0.mk (below_step (by repeat (first | (with_reducible first | exact HB.out | apply below_alloc | apply pw_below_drewN | apply below_drew1 | refine below_set ?_ GE101.out) | exact HB.out)) hb); clear HO0_6; clear HO105; clear BK101; clear HB; have HO0_6 := n0_; have HO105 := n1_; have BK101 := n2_; have HB := n3_; clear n0_ n1_ n2_ n3_; (try clear hb); (try clear hb2); (try clear hk); (try clear hi)) | (go_at_call 37; (with_reducible refine (malthouselaw11_cells.calls k _ _ l1 t107 _ ?side1 ?side2 A5.out).mono ?_); (case side1 => repeat (first | exact (Kd.C_below HR1.out HB.out) | (with_reducible refine Kd.C_alloc ?_ _) | (with_reducible refine Kd.C_drewN ?_ _) | (with_reducible refine Kd.C_drew ?_))); (case side2 => exact HC1.out); rintro e w' ⟨rfl, ⟨nd, rfl⟩⟩; (try first | exact ⟨rfl, _, World.drewN_drewN _ _ _⟩ | exact ⟨rfl, _, Eq.trans (World.drewN_drewN _ _ _) (congrArg (World.drewN _) (Nat.add_assoc _ _ _))⟩))))
  (try simp only [Act.put, List.setIfInBounds_toArray, List.set_cons_zero, List.set_cons_succ])
  go_cut [29] (fun v29 wc => ∃ (kq : Nat) (x29_5 : Bool), v29 = .bool x29_5 ∧ Aside0 (malthouselaw11_ProgWants.j0 kq l1 t102 x29_5 a0_0 a0_1 a0_2 a0_3 a0_4 a0_5 l0_6 a0_7 = some r) ∧ Aside0 (kq ≤ k) ∧ Aside0 (Kd.V k34 34 wc w.heap.size (fun k_ => (P0_6_ k_ ∨ w.heap.size ≤ k_) ∧ k_ ≠ gb101) (.slice A0_6 l0_6.length c0_6) l0_6) ∧ Aside0 (wc.heap[gb101]? = some (.cells #[.int .i64 a0_0, .string a0_1, .string a0_2, .int .i64 a0_3, .int .i64 a0_4, .string a0_5, (.slice A0_6 l0_6.length c0_6), .int .i64 a0_7] 67 (0, 0))) ∧ Aside0 (Below w.heap.size w wc))
  case first =>
    have H := HC6.out
    clear HC6
    by_cases c14 : t102 = true
    · subst c14
      have H1 : (if t106 = true then (malthouselaw11_ProgWants.j0 k l1 true (!t107) a0_0 a0_1 a0_2 a0_3 a0_4 a0_5 l0_6 a0_7) else (malthouselaw11_ProgWants.j0 k l1 true true a0_0 a0_1 a0_2 a0_3 a0_4 a0_5 l0_6 a0_7)) = some r := by rw [if_pos rfl] at H; exact H
      clear H
      have H := H1
      clear H1
      by_cases c15 : t106 = true
      · subst c15
        have H1 : (malthouselaw11_ProgWants.j0 k l1 true (!t107) a0_0 a0_1 a0_2 a0_3 a0_4 a0_5 l0_6 a0_7) = some r := by rw [if_pos rfl] at H; exact H
        clear H
        have H := H1
        clear H1
        have H' := Aside0.mk H
        clear H
        go_wp2
        repeat (go_quiet (fail); try go_wp2)
        go_meet
        case rel => exact ⟨_, (!t107), (by first | rfl | (simp; done) | (simp [*]; done)), H', ⟨by first | omega | exact Nat.le_refl _⟩, ⟨by (with_reducible repeat (first | apply Kd.V_alloc | apply Kd.V_drewN | apply Kd.V_drew)); exact Kd.V_mono HO0_6.out (fun _ hk => ⟨hk.1.1, hk.1.2⟩)⟩, ⟨by (with_reducible repeat (first | refine blk_drewN ?_ _ | refine blk_drew ?_ | refine blk_alloc ?_ _)); exact BK101.out⟩, ⟨by repeat (first | (with_reducible first | exact HB.out | apply below_alloc | apply pw_below_drewN | apply below_drew1 | refine below_set ?_ GE101.out) | exact HB.out)⟩⟩
      · replace c15 := Bool.eq_false_iff.mpr c15
        subst c15
        have H1 : (malthouselaw11_ProgWants.j0 k l1 true true a0_0 a0_1 a0_2 a0_3 a0_4 a0_5 l0_6 a0_7) = some r := by rw [if_neg (show ¬ (false = true) by decide)] at H; exact H
        clear H
        have H := H1
        clear H1
        have H' := Aside0.mk H
        clear H
        go_wp2
        repeat (go_quiet (fail); try go_wp2)
        go_meet
        case rel => exact ⟨_, (true), (by first | rfl | (simp; done) | (simp [*]; done)), H', ⟨by first | omega | exact Nat.le_refl _⟩, ⟨by (with_reducible repeat (first | apply Kd.V_alloc | apply Kd.V_drewN | apply Kd.V_drew)); exact Kd.V_mono HO0_6.out (fun _ hk => ⟨hk.1.1, hk.1.2⟩)⟩, ⟨by (with_reducible repeat (first | refine blk_drewN ?_ _ | refine blk_drew ?_ | refine blk_alloc ?_ _)); exact BK101.out⟩, ⟨by repeat (first | (with_reducible first | exact HB.out | apply below_alloc | apply pw_below_drewN | apply below_drew1 | refine below_set ?_ GE101.out) | exact HB.out)⟩⟩
    · replace c14 := Bool.eq_false_iff.mpr c14
      subst c14
      have H1 : (malthouselaw11_ProgWants.j0 k l1 false true a0_0 a0_1 a0_2 a0_3 a0_4 a0_5 l0_6 a0_7) = some r := by rw [if_neg (show ¬ (false = true) by decide)] at H; exact H
      clear H
      have H := H1
      clear H1
      have H' := Aside0.mk H
      clear H
      go_wp2
      repeat (go_quiet (fail); try go_wp2)
      go_meet
      case rel => exact ⟨_, (true), (by first | rfl | (simp; done) | (simp [*]; done)), H', ⟨by first | omega | exact Nat.le_refl _⟩, ⟨by (with_reducible repeat (first | apply Kd.V_alloc | apply Kd.V_drewN | apply Kd.V_drew)); exact Kd.V_mono HO0_6.out (fun _ hk => ⟨hk.1.1, hk.1.2⟩)⟩, ⟨by (with_reducible repeat (first | refine blk_drewN ?_ _ | refine blk_drew ?_ | refine blk_alloc ?_ _)); exact BK101.out⟩, ⟨by repeat (first | (with_reducible first | exact HB.out | apply below_alloc | apply pw_below_drewN | apply below_drew1 | refine below_set ?_ GE101.out) | exact HB.out)⟩⟩
  case rest =>
    clear HC6
    try clear c1
    try clear p2
    try clear c8
    try clear c12
    try clear c14
    try clear c15
    try clear hcz9_0
    try clear hcz9_1
    try clear hcz9_2
    try clear hcz9_3
    try clear hcz9_4
    try clear hcz9_5
    try clear hcz9_6
    try clear hcz9_7
    try clear hfz9_0
    try clear hfz9_1
    try clear hfz9_2
    try clear hfz9_3
    try clear hfz9_4
    try clear hfz9_5
    try clear hfz9_6
    try clear hfz9_7
    obtain ⟨kq, x29_5, rfl, HA, HJ5, HO_102006, BK101, HB⟩ := hcut
    cases kq with
    | zero => exact absurd HA.out (by simp [malthouselaw11_ProgWants.j0])
    | succ kj5 =>
      have H := HA.out
      clear HA
      simp only [malthouselaw11_ProgWants.j0] at H
      by_cases c16 : x29_5 = true
      · subst c16
        have H1 : (some t102) = some r := by rw [if_pos rfl] at H; exact H
        clear H
        have H := H1
        clear H1
        obtain rfl := Option.some.inj H
        go_wp2
        repeat (go_quiet (fail); try go_wp2)
        go_ret
        exact ⟨by first | rfl | (simp [errW_none, errW_some] <;> rfl) | (simp [*, errW_none, errW_some] <;> rfl), by repeat (first | (with_reducible first | exact HB.out | apply below_alloc | apply pw_below_drewN | apply below_drew1 | refine below_set ?_ GE101.out) | exact HB.out)⟩
      · replace c16 := Bool.eq_false_iff.mpr c16
        subst c16
        have H1 : ((prog_Scan.f kj5 (([(⟨a0_0, a0_1, a0_2, (⟨a0_3, a0_4, a0_5, l0_6⟩ : S34), a0_7⟩ : S67)] : List (S67))) 0 0 l1).bind fun bt111 => ((expr_Eval.f kj5 a0_3 a0_4 a0_5 l0_6 l1).bind fun bt119 => (if a0_0 = 0 then (malthouselaw11_ProgWants.j1 kj5 bt111.2.2.1 bt111.2.2.2.2 bt119.1 bt119.2 a0_0 (a0_0 == 0) a0_0 a0_1 a0_2 a0_3 a0_4 a0_5 l0_6 a0_7) else (if a0_0 = 3 then (malthouselaw11_ProgWants.j1 kj5 bt111.2.2.1 bt111.2.2.2.2 bt119.1 bt119.2 a0_0 (a0_0 == 3) a0_0 a0_1 a0_2 a0_3 a0_4 a0_5 l0_6 a0_7) else (if a0_0 = 4 then (malthouselaw11_ProgWants.j1 kj5 bt111.2.2.1 bt111.2.2.2.2 bt119.1 bt119.2 a0_0 (a0_0 == 4) a0_0 a0_1 a0_2 a0_3 a0_4 a0_5 l0_6 a0_7) else (malthouselaw11_ProgWants.j1 kj5 bt111.2.2.1 bt111.2.2.2.2 bt119.1 bt119.2 a0_0 (a0_0 == 5) a0_0 a0_1 a0_2 a0_3 a0_4 a0_5 l0_6 a0_7)))))) = some r := by rw [if_neg (show ¬ (false = true) by decide)] at H; exact H
        clear H
        have H := H1
        clear H1
        obtain ⟨y108, hy108⟩ : ∃ y_ : List (S67), y_ = (([(⟨a0_0, a0_1, a0_2, (⟨a0_3, a0_4, a0_5, l0_6⟩ : S34), a0_7⟩ : S67)] : List (S67))) := ⟨_, rfl⟩
        replace H : ((prog_Scan.f kj5 y108 0 0 l1).bind fun bt111 => ((expr_Eval.f kj5 a0_3 a0_4 a0_5 l0_6 l1).bind fun bt119 => (if a0_0 = 0 then (malthouselaw11_ProgWants.j1 kj5 bt111.2.2.1 bt111.2.2.2.2 bt119.1 bt119.2 a0_0 (a0_0 == 0) a0_0 a0_1 a0_2 a0_3 a0_4 a0_5 l0_6 a0_7) else (if a0_0 = 3 then (malthouselaw11_ProgWants.j1 kj5 bt111.2.2.1 bt111.2.2.2.2 bt119.1 bt119.2 a0_0 (a0_0 == 3) a0_0 a0_1 a0_2 a0_3 a0_4 a0_5 l0_6 a0_7) else (if a0_0 = 4 then (malthouselaw11_ProgWants.j1 kj5 bt111.2.2.1 bt111.2.2.2.2 bt119.1 bt119.2 a0_0 (a0_0 == 4) a0_0 a0_1 a0_2 a0_3 a0_4 a0_5 l0_6 a0_7) else (malthouselaw11_ProgWants.j1 kj5 bt111.2.2.1 bt111.2.2.2.2 bt119.1 bt119.2 a0_0 (a0_0 == 5) a0_0 a0_1 a0_2 a0_3 a0_4 a0_5 l0_6 a0_7)))))) = some r := by first | (rw [hy108]; with_reducible exact H) | (have H2_ := (Option.bind_some _ _).symm.trans H; rw [hy108]; with_reducible exact H2_) | (have H2_ := (Option.bind_some _ _).symm.trans H; with_reducible exact H2_) | with_reducible exact H | (rw [hy108]; exact H) | exact H
        have Ny108 := Aside0.mk hy108
        clear hy108
        replace H := Option.bind_eq_some_iff.mp H
        obtain ⟨⟨t111, t112, t113, t116, t117⟩, A170, H⟩ := H
        replace H : ((expr_Eval.f kj5 a0_3 a0_4 a0_5 l0_6 l1).bind fun bt119 => (if a0_0 = 0 then (malthouselaw11_ProgWants.j1 kj5 t113 t117 bt119.1 bt119.2 a0_0 (a0_0 == 0) a0_0 a0_1 a0_2 a0_3 a0_4 a0_5 l0_6 a0_7) else (if a0_0 = 3 then (malthouselaw11_ProgWants.j1 kj5 t113 t117 bt119.1 bt119.2 a0_0 (a0_0 == 3) a0_0 a0_1 a0_2 a0_3 a0_4 a0_5 l0_6 a0_7) else (if a0_0 = 4 then (malthouselaw11_ProgWants.j1 kj5 t113 t117 bt119.1 bt119.2 a0_0 (a0_0 == 4) a0_0 a0_1 a0_2 a0_3 a0_4 a0_5 l0_6 a0_7) else (malthouselaw11_ProgWants.j1 kj5 t113 t117 bt119.1 bt119.2 a0_0 (a0_0 == 5) a0_0 a0_1 a0_2 a0_3 a0_4 a0_5 l0_6 a0_7))))) = some r := H
        have A17 := Aside0.mk A170
        clear A170
        replace H := Option.bind_eq_some_iff.mp H
        obtain ⟨⟨t119, t120⟩, A180, H⟩ := H
        replace H : (if a0_0 = 0 then (malthouselaw11_ProgWants.j1 kj5 t113 t117 t119 t120 a0_0 (a0_0 == 0) a0_0 a0_1 a0_2 a0_3 a0_4 a0_5 l0_6 a0_7) else (if a0_0 = 3 then (malthouselaw11_ProgWants.j1 kj5 t113 t117 t119 t120 a0_0 (a0_0 == 3) a0_0 a0_1 a0_2 a0_3 a0_4 a0_5 l0_6 a0_7) else (if a0_0 = 4 then (malthouselaw11_ProgWants.j1 kj5 t113 t117 t119 t120 a0_0 (a0_0 == 4) a0_0 a0_1 a0_2 a0_3 a0_4 a0_5 l0_6 a0_7) else (malthouselaw11_ProgWants.j1 kj5 t113 t117 t119 t120 a0_0 (a0_0 == 5) a0_0 a0_1 a0_2 a0_3 a0_4 a0_5 l0_6 a0_7)))) = some r := H
        have A18 := Aside0.mk A180
        clear A180
        have HC19 := Aside0.mk H
        clear H
        have hcz20_0 : wc.cell? ⟨gb101, 0, none⟩ = some (.int .i64 a0_0) := (blk_cell BK101.out 0).trans rfl
        have hcz20_1 : wc.cell? ⟨gb101, 1, none⟩ = some (.string a0_1) := (blk_cell BK101.out 1).trans rfl
        have hcz20_2 : wc.cell? ⟨gb101, 2, none⟩ = some (.string a0_2) := (blk_cell BK101.out 2).trans rfl
        have hcz20_3 : wc.cell? ⟨gb101, 3, none⟩ = some (.int .i64 a0_3) := (blk_cell BK101.out 3).trans rfl
        have hcz20_4 : wc.cell? ⟨gb101, 4, none⟩ = some (.int .i64 a0_4) := (blk_cell BK101.out 4).trans rfl
        have hcz20_5 : wc.cell? ⟨gb101, 5, none⟩ = some (.string a0_5) := (blk_cell BK101.out 5).trans rfl
        have hcz20_6 : wc.cell? ⟨gb101, 6, none⟩ = some (.slice A0_6 l0_6.length c0_6) := (blk_cell BK101.out 6).trans rfl
        have hcz20_7 : wc.cell? ⟨gb101, 7, none⟩ = some (.int .i64 a0_7) := (blk_cell BK101.out 7).trans rfl
        have hfz20_0 := blk_frozen BK101.out 0
        have hfz20_1 := blk_frozen BK101.out 1
        have hfz20_2 := blk_frozen BK101.out 2
        have hfz20_3 := blk_frozen BK101.out 3
        have hfz20_4 := blk_frozen BK101.out 4
        have hfz20_5 := blk_frozen BK101.out 5
        have hfz20_6 := blk_frozen BK101.out 6
        have hfz20_7 := blk_frozen BK101.out 7
        go_upto_if 50 with (first | ((with_reducible refine gate_dst (N := 33) rfl ?_); (try (refine gate_guard (by rfl) ?_; dsimp only)); refine Kd.N_lit k67 _ 67 ?hg (N' := 33) ?hd (xs := ([(⟨a0_0, a0_1, a0_2, (⟨a0_3, a0_4, a0_5, l0_6⟩ : S34), a0_7⟩ : S67)] : List (S67))) (inner := [.int .i64 a0_0, .string a0_1, .string a0_2, .int .i64 a0_3, .int .i64 a0_4, .string a0_5, .slice A0_6 l0_6.length c0_6, .int .i64 a0_7]) (ok := (fun k_ => (P0_6_ k_ ∨ w.heap.size ≤ k_) ∧ k_ ≠ gb101)) (okp := (fun k_ => (P0_6_ k_ ∨ w.heap.size ≤ k_) ∧ k_ ≠ gb101)) ?hr ?hp (fun _ hk => hk) ((show ∀ k_, wc.heap.size ≤ k_ → (fun k_ => (P0_6_ k_ ∨ w.heap.size ≤ k_) ∧ k_ ≠ gb101) k_ from fun k_ hk => ⟨(.inr (Nat.le_trans (below_size (by repeat (first | (with_reducible first | exact HB.out | apply below_alloc | apply pw_below_drewN | apply below_drew1 | refine below_set ?_ GE101.out) | exact HB.out))) hk)), Kd.freshB (g := gb101) (o := .cells #[.int .i64 a0_0, .string a0_1, .string a0_2, .int .i64 a0_3, .int .i64 a0_4, .string a0_5, .slice A0_6 l0_6.length c0_6, .int .i64 a0_7] 67 (0, 0)) (by (with_reducible repeat (first | refine blk_drewN ?_ _ | refine blk_drew ?_ | refine blk_alloc ?_ _)); exact BK101.out) k_ hk⟩) _ (Nat.le_refl _)) (Below.refl _ _) (Nat.le_refl _) (by simp) ?_; (case hd => rfl); (case hg => rfl); (case hr => first | (go_simp; done) | (go_simp; rfl)); (case hp => exact (Reps.c8 (show Kd.FK k67 _ _ (⟨a0_0, a0_1, a0_2, (⟨a0_3, a0_4, a0_5, l0_6⟩ : S34), a0_7⟩ : S67) [.int .i64 a0_0, .string a0_1, .string a0_2, .int .i64 a0_3, .int .i64 a0_4, .string a0_5, .slice A0_6 l0_6.length c0_6, .int .i64 a0_7] from (k67_mkF _ _ (⟨a0_0, a0_1, a0_2, (⟨a0_3, a0_4, a0_5, l0_6⟩ : S34), a0_7⟩ : S67) (Kd.V_reads' (Kd.V_mono (ok' := (fun k_ => (P0_6_ k_ ∨ w.heap.size ≤ k_) ∧ k_ ≠ gb101)) (HO_102006.out) (fun k_ hk => ⟨hk.1, hk.2⟩))).2.1 (Kd.V_F (Kd.V_mono (ok' := (fun k_ => (P0_6_ k_ ∨ w.heap.size ≤ k_) ∧ k_ ≠ gb101)) (HO_102006.out) (fun k_ hk => ⟨hk.1, hk.2⟩))))) (Reps.none _ _))); intro v109 w21 ho22 hb hg_ hnew_; clear hg_ hnew_; (first | rw [← Ny108.out] at ho22 | (simp only [Int.reduceToNat] at ho22; rw [← Ny108.out] at ho22)); have n0_ := Aside0.mk (Kd.V_elder' (by (with_reducible repeat (first | apply Kd.V_alloc | apply Kd.V_drewN | apply Kd.V_drew)); exact HO_102006.out) (Kd.N_base ho22) hb); have n1_ := Aside0.mk (Kd.N_lower ho22 (below_size (by repeat (first | (with_reducible first | exact HB.out | apply below_alloc | apply pw_below_drewN | apply below_drew1 | refine below_set ?_ GE101.out) | exact HB.out)))); have n2_ := Aside0.mk (blk_below (g := gb101) (o := .cells #[.int .i64 a0_0, .string a0_1, .string a0_2, .int .i64 a0_3, .int .i64 a0_4, .string a0_5, .slice A0_6 l0_6.length c0_6, .int .i64 a0_7] 67 (0, 0)) (by (with_reducible repeat (first | refine blk_drewN ?_ _ | refine blk_drew ?_ | refine blk_alloc ?_ _)); exact BK101.out) hb); have n3_ := Aside0.mk (below_step (by repeat (first | (with_reducible first | exact HB.out | apply below_alloc | apply pw_below_drewN | apply below_drew1 | refine below_set ?_ GE101.out) | exact HB.out)) hb); clear HO_102006; clear BK101; clear HB; have HO_102006 := n0_; have HO110 := n1_; have BK101 := n2_; have HB := n3_; clear n0_ n1_ n2_ n3_; clear hb ho22; obtain ⟨Ao23, co23, eo23⟩ := Kd.N_slice HO110.out; subst eo23) | (go_at_call 38; (with_reducible refine (prog_Scan.calls kj5 _ _ y108 0 0 _ _ l1 t111 t112 t113 t116 t117 _ ?side1 ?side2 ?side3 ?side4 A17.out (by first | exact HT0.out | exact UT.below HT0.out (by repeat (first | (with_reducible first | exact HB.out | apply below_alloc | apply pw_below_drewN | apply below_drew1 | refine below_set ?_ GE101.out) | exact HB.out)))).mono ?_); (case side1 => repeat (first | exact (Kd.N_reads' HO110.out).2.2 | (with_reducible refine Kd.C_alloc ?_ _) | (with_reducible refine Kd.C_drewN ?_ _) | (with_reducible refine Kd.C_drew ?_))); (case side2 => exact (Kd.N_reads' HO110.out).2.1); (case side3 => repeat (first | exact (Kd.C_below HR1.out HB.out) | (with_reducible refine Kd.C_alloc ?_ _) | (with_reducible refine Kd.C_drewN ?_ _) | (with_reducible refine Kd.C_drew ?_))); (case side4 => exact HC1.out); rintro e w24 ⟨v114, rfl, ho0, hb⟩; have n0_ := Aside0.mk (Kd.V_elder' (by (with_reducible repeat (first | apply Kd.V_alloc | apply Kd.V_drewN | apply Kd.V_drew)); exact HO_102006.out) (Kd.R_base ho0) hb); have n1_ := Aside0.mk (Kd.N_elder' (by (with_reducible repeat (first | apply Kd.N_alloc | apply Kd.N_drewN | apply Kd.N_drew)); exact HO110.out) (Kd.R_base ho0) hb); have n2_ := Aside0.mk (Kd.R_lower (Kd.R_newM (M := fun k_ => (w.heap.size ≤ k_)) ho0 (below_size (by repeat (first | (with_reducible first | exact HB.out | apply below_alloc | apply pw_below_drewN | apply below_drew1 | refine below_set ?_ GE101.out) | exact HB.out))) (fun k_ h_ => h_)) (below_size (by repeat (first | (with_reducible first | exact HB.out | apply below_alloc | apply pw_below_drewN | apply below_drew1 | refine below_set ?_ GE101.out) | exact HB.out)))); have n3_ := Aside0.mk (blk_below (g := gb101) (o := .cells #[.int .i64 a0_0, .string a0_1, .string a0_2, .int .i64 a0_3, .int .i64 a0_4, .string a0_5, .slice A0_6 l0_6.length c0_6, .int .i64 a0_7] 67 (0, 0)) (by (with_reducible repeat (first | refine blk_drewN ?_ _ | refine blk_drew ?_ | refine blk_alloc ?_ _)); exact BK101.out) hb); have n4_ := Aside0.mk (below_step (by repeat (first | (with_reducible first | exact HB.out | apply below_alloc | apply pw_below_drewN | apply below_drew1 | refine below_set ?_ GE101.out) | exact HB.out)) hb); clear HO_102006; clear HO110; clear BK101; clear HB; have HO_102006 := n0_; have HO110 := n1_; have HO115 := n2_; have BK101 := n3_; have HB := n4_; clear n0_ n1_ n2_ n3_ n4_; (try clear hb); (try clear hb2); (try clear hk); (try clear hi); (try clear ho0)) | ((with_reducible refine gate_dst (N := 8) rfl ?_); (try (refine gate_guard (by rfl) ?_; dsimp only)); refine box_event ?hg (N := 8) ?hd (cs := #[.int .i64 0, .int .i64 0]) (t := 57) ?hr ?_; (case hd => rfl); (case hg => rfl); (case hr => first | (go_simp; done) | (go_simp; rfl)); intro gb118 hg w25 hbox hb; have n0_ := Aside0.mk (Kd.V_below (Kd.V_elderB (by (with_reducible repeat (first | apply Kd.V_alloc | apply Kd.V_drewN | apply Kd.V_drew)); exact HO_102006.out) gb118 (Nat.le_of_eq hg.symm)) hb); have n1_ := Aside0.mk (Kd.N_below (Kd.N_elderB (by (with_reducible repeat (first | apply Kd.N_alloc | apply Kd.N_drewN | apply Kd.N_drew)); exact HO110.out) gb118 (Nat.le_of_eq hg.symm)) hb); have n2_ := Aside0.mk (Kd.R_below (by (with_reducible repeat (first | apply Kd.R_alloc | apply Kd.R_drewN | apply Kd.R_drew)); exact HO115.out) hb); have n3_ := Aside0.mk (blk_below (g := gb101) (o := .cells #[.int .i64 a0_0, .string a0_1, .string a0_2, .int .i64 a0_3, .int .i64 a0_4, .string a0_5, .slice A0_6 l0_6.length c0_6, .int .i64 a0_7] 67 (0, 0)) (by (with_reducible repeat (first | refine blk_drewN ?_ _ | refine blk_drew ?_ | refine blk_alloc ?_ _)); exact BK101.out) hb); have n4_ := Aside0.mk (below_step (by repeat (first | (with_reducible first | exact HB.out | apply below_alloc | apply pw_below_drewN | apply below_drew1 | refine below_set ?_ GE101.out) | exact HB.out)) hb); have n5_ := Aside0.mk (hbox); have n6_ := Aside0.mk ((by rw [hg]; exact (below_size (by repeat (first | (with_reducible first | exact HB.out | apply below_alloc | apply pw_below_drewN | apply below_drew1 | refine below_set ?_ GE101.out) | exact HB.out))) : w.heap.size ≤ gb118)); have n7_ := Aside0.mk ((by rw [hg]; exact (below_size (by repeat (first | (with_reducible first | exact HB.out | apply below_alloc | apply pw_below_drewN | apply below_drew1 | refine below_set ?_ GE101.out) | exact HB.out))) : w.heap.size ≤ gb118)); have n8_ := Aside0.mk ((by rw [hg]; exact Nat.ne_of_lt (blk_lt (g := gb101) (o := .cells #[.int .i64 a0_0, .string a0_1, .string a0_2, .int .i64 a0_3, .int .i64 a0_4, .string a0_5, .slice A0_6 l0_6.length c0_6, .int .i64 a0_7] 67 (0, 0)) (by (with_reducible repeat (first | refine blk_drewN ?_ _ | refine blk_drew ?_ | refine blk_alloc ?_ _)); exact BK101.out)) : gb101 ≠ gb118)); have n9_ := Aside0.mk ((by rw [hg]; exact Nat.ne_of_gt (blk_lt (g := gb101) (o := .cells #[.int .i64 a0_0, .string a0_1, .string a0_2, .int .i64 a0_3, .int .i64 a0_4, .string a0_5, .slice A0_6 l0_6.length c0_6, .int .i64 a0_7] 67 (0, 0)) (by (with_reducible repeat (first | refine blk_drewN ?_ _ | refine blk_drew ?_ | refine blk_alloc ?_ _)); exact BK101.out)) : gb118 ≠ gb101)); clear HO_102006; clear HO110; clear HO115; clear BK101; clear HB; have HO_102006 := n0_; have HO110 := n1_; have HO115 := n2_; have BK101 := n3_; have HB := n4_; have BK118 := n5_; have GW118 := n6_; have GE118 := n7_; have NB101_118 := n8_; have NB118_101 := n9_; clear n0_ n1_ n2_ n3_ n4_ n5_ n6_ n7_ n8_ n9_; clear hb hbox hg; have hnb26 := NB118_101.out; have hnc26 := NB101_118.out; have hcz27_0 : w25.cell? ⟨gb118, 0, none⟩ = some (.int .i64 0) := (blk_cell BK118.out 0).trans rfl; have hcz27_1 : w25.cell? ⟨gb118, 1, none⟩ = some (.int .i64 0) := (blk_cell BK118.out 1).trans rfl; have hfz27_0 := blk_frozen BK118.out 0; have hfz27_1 := blk_frozen BK118.out 1; have hcz28_0 : w25.cell? ⟨gb101, 0, none⟩ = some (.int .i64 a0_0) := (blk_cell BK101.out 0).trans rfl; have hcz28_1 : w25.cell? ⟨gb101, 1, none⟩ = some (.string a0_1) := (blk_cell BK101.out 1).trans rfl; have hcz28_2 : w25.cell? ⟨gb101, 2, none⟩ = some (.string a0_2) := (blk_cell BK101.out 2).trans rfl; have hcz28_3 : w25.cell? ⟨gb101, 3, none⟩ = some (.int .i64 a0_3) := (blk_cell BK101.out 3).trans rfl; have hcz28_4 : w25.cell? ⟨gb101, 4, none⟩ = some (.int .i64 a0_4) := (blk_cell BK101.out 4).trans rfl; have hcz28_5 : w25.cell? ⟨gb101, 5, none⟩ = some (.string a0_5) := (blk_cell BK101.out 5).trans rfl; have hcz28_6 : w25.cell? ⟨gb101, 6, none⟩ = some (.slice A0_6 l0_6.length c0_6) := (blk_cell BK101.out 6).trans rfl; have hcz28_7 : w25.cell? ⟨gb101, 7, none⟩ = some (.int .i64 a0_7) := (blk_cell BK101.out 7).trans rfl; have hfz28_0 := blk_frozen BK101.out 0; have hfz28_1 := blk_frozen BK101.out 1; have hfz28_2 := blk_frozen BK101.out 2; have hfz28_3 := blk_frozen BK101.out 3; have hfz28_4 := blk_frozen BK101.out 4; have hfz28_5 := blk_frozen BK101.out 5; have hfz28_6 := blk_frozen BK101.out 6; have hfz28_7 := blk_frozen BK101.out 7) | (go_at_call 30; (with_reducible refine (expr_Eval.calls kj5 a0_3 a0_4 a0_5 _ _ l0_6 _ _ l1 t119 t120 _ ?side1 ?side2 ?side3 ?side4 A18.out (by first | exact HT0.out | exact UT.below HT0.out (by repeat (first | exact HB.out | exact Below.refl _ _ | apply below_alloc | apply pw_below_drewN | apply below_drew1 | refine below_set ?_ GE101.out | refine below_set ?_ GE102.out | refine below_set ?_ GE103.out | refine below_set ?_ GE104.out | refine below_set ?_ GE105.out | refine below_set ?_ GE106.out | refine below_set ?_ GE107.out | refine below_set ?_ GE108.out | refine below_set ?_ GE109.out | refine below_set ?_ GE110.out | refine below_set ?_ GE111.out | refine below_set ?_ GE112.out | refine below_set ?_ GE113.out | refine below_set ?_ GE114.out | refine below_set ?_ GE115.out | refine below_set ?_ GE116.out | refine below_set ?_ GE117.out | refine below_set ?_ GE118.out | refine below_set ?_ GE119.out | refine below_set ?_ GE120.out | refine below_set ?_ GE121.out | refine below_set ?_ GE122.out | refine below_set ?_ GE123.out | refine below_set ?_ GE124.out | refine below_set ?_ GE125.out | refine below_set ?_ GE126.out | refine below_set ?_ GE127.out | refine below_set ?_ GE128.out | refine below_set ?_ GE129.out | refine below_set ?_ GE130.out)))).mono ?_); (case side1 => refine (Kd.V_reads' (e := 34) (base := w.heap.size) (ok := fun k_ => (((((P0_6_ k_ ∨ w.heap.size ≤ k_) ∧ k_ ≠ gb101) ∧ some k_ ≠ (.slice Ao23 y108.length co23 : Value).ownBlock) ∧ some k_ ≠ (v114 : Value).ownBlock) ∧ k_ ≠ gb118)) (n := l0_6.length) (c := c0_6) ?_).2.2; exact (by (with_reducible repeat (first | apply Kd.V_alloc | apply Kd.V_drewN | apply Kd.V_drew)); exact (Kd.V_mono (Kd.V_far (p := ⟨gb118, 1, none⟩) (Kd.V_far (p := ⟨gb118, 0, none⟩) (Kd.V_mono HO_102006.out (fun k_ hk => (⟨hk, hk.2⟩ : _ ∧ k_ ≠ gb118))) (fun _ hk => hk.2) (.int .i64 t111)) (fun _ hk => hk.2) (.int .i64 t112)) (fun _ h_ => h_.1)))); (case side2 => exact (Kd.V_reads' HO_102006.out).2.1); (case side3 => exact Kd.C_below HR1.out (by repeat (first | (with_reducible first | exact HB.out | apply below_alloc | apply pw_below_drewN | apply below_drew1 | refine below_set ?_ GE101.out | refine below_set ?_ GE118.out) | exact HB.out))); (case side4 => exact HC1.out); rintro e w29 ⟨rfl, hb⟩; have n0_ := Aside0.mk (Kd.V_below (by (with_reducible repeat (first | apply Kd.V_alloc | apply Kd.V_drewN | apply Kd.V_drew)); exact (Kd.V_mono (Kd.V_far (p := ⟨gb118, 1, none⟩) (Kd.V_far (p := ⟨gb118, 0, none⟩) (Kd.V_mono HO_102006.out (fun k_ hk => (⟨hk, hk.2⟩ : _ ∧ k_ ≠ gb118))) (fun _ hk => hk.2) (.int .i64 t111)) (fun _ hk => hk.2) (.int .i64 t112)) (fun _ h_ => h_.1))) hb); have n1_ := Aside0.mk (Kd.N_below (by (with_reducible repeat (first | apply Kd.N_alloc | apply Kd.N_drewN | apply Kd.N_drew)); exact (Kd.N_mono (Kd.N_far (p := ⟨gb118, 1, none⟩) (Kd.N_far (p := ⟨gb118, 0, none⟩) (Kd.N_mono HO110.out (fun k_ hk => (⟨hk, hk.2⟩ : _ ∧ k_ ≠ gb118))) (fun _ hk => hk.2) (.int .i64 t111)) (fun _ hk => hk.2) (.int .i64 t112)) (fun _ h_ => h_.1))) hb); have n2_ := Aside0.mk (Kd.R_below (by (with_reducible repeat (first | apply Kd.R_alloc | apply Kd.R_drewN | apply Kd.R_drew)); exact (Kd.R_mono (Kd.R_far (p := ⟨gb118, 1, none⟩) (Kd.R_far (p := ⟨gb118, 0, none⟩) (Kd.R_types HO115.out BK118.out (by decide)) (fun _ hk => hk.2) (.int .i64 t111)) (fun _ hk => hk.2) (.int .i64 t112)) (fun _ h_ => h_.1))) hb); have n3_ := Aside0.mk (blk_below (g := gb101) (o := .cells #[.int .i64 a0_0, .string a0_1, .string a0_2, .int .i64 a0_3, .int .i64 a0_4, .string a0_5, .slice A0_6 l0_6.length c0_6, .int .i64 a0_7] 67 (0, 0)) (by (with_reducible repeat (first | refine blk_drewN ?_ _ | refine blk_drew ?_ | refine blk_alloc ?_ _)); refine blk_far ?_ NB101_118.out _; (with_reducible repeat (first | refine blk_drewN ?_ _ | refine blk_drew ?_ | refine blk_alloc ?_ _)); refine blk_far ?_ NB101_118.out _; (with_reducible repeat (first | refine blk_drewN ?_ _ | refine blk_drew ?_ | refine blk_alloc ?_ _)); exact BK101.out) hb); have n4_ := Aside0.mk (blk_below (g := gb118) (o := .cells #[.int .i64 t111, .int .i64 t112] 57 (0, 0)) (by (with_reducible repeat (first | refine blk_drewN ?_ _ | refine blk_drew ?_ | refine blk_alloc ?_ _)); refine blk_put (cs := #[.int .i64 t111, .int .i64 0]) ?_ 1 _ rfl; (with_reducible repeat (first | refine blk_drewN ?_ _ | refine blk_drew ?_ | refine blk_alloc ?_ _)); refine blk_put (cs := #[.int .i64 0, .int .i64 0]) ?_ 0 _ rfl; (with_reducible repeat (first | refine blk_drewN ?_ _ | refine blk_drew ?_ | refine blk_alloc ?_ _)); exact BK118.out) hb); have n5_ := Aside0.mk (below_step (by repeat (first | (with_reducible first | exact HB.out | apply below_alloc | apply pw_below_drewN | apply below_drew1 | refine below_set ?_ GE101.out | refine below_set ?_ GE118.out) | exact HB.out)) hb); clear HO_102006; clear HO110; clear HO115; clear BK101; clear BK118; clear HB; have HO_102006 := n0_; have HO110 := n1_; have HO115 := n2_; have BK101 := n3_; have BK118 := n4_; have HB := n5_; clear n0_ n1_ n2_ n3_ n4_ n5_; (try clear hb); (try clear hb2); (try clear hk); (try clear hi); have hcz30_0 : w29.cell? ⟨gb101, 0, none⟩ = some (.int .i64 a0_0) := (blk_cell BK101.out 0).trans rfl; have hcz30_1 : w29.cell? ⟨gb101, 1, none⟩ = some (.string a0_1) := (blk_cell BK101.out 1).trans rfl; have hcz30_2 : w29.cell? ⟨gb101, 2, none⟩ = some (.string a0_2) := (blk_cell BK101.out 2).trans rfl; have hcz30_3 : w29.cell? ⟨gb101, 3, none⟩ = some (.int .i64 a0_3) := (blk_cell BK101.out 3).trans rfl; have hcz30_4 : w29.cell? ⟨gb101, 4, none⟩ = some (.int .i64 a0_4) := (blk_cell BK101.out 4).trans rfl; have hcz30_5 : w29.cell? ⟨gb101, 5, none⟩ = some (.string a0_5) := (blk_cell BK101.out 5).trans rfl; have hcz30_6 : w29.cell? ⟨gb101, 6, none⟩ = some (.slice A0_6 l0_6.length c0_6) := (blk_cell BK101.out 6).trans rfl; have hcz30_7 : w29.cell? ⟨gb101, 7, none⟩ = some (.int .i64 a0_7) := (blk_cell BK101.out 7).trans rfl; have hfz30_0 := blk_frozen BK101.out 0; have hfz30_1 := blk_frozen BK101.out 1; have hfz30_2 := blk_frozen BK101.out 2; have hfz30_3 := blk_frozen BK101.out 3; have hfz30_4 := blk_frozen BK101.out 4; have hfz30_5 := blk_frozen BK101.out 5; have hfz30_6 := blk_frozen BK101.out 6; have hfz30_7 := blk_frozen BK101.out 7))
        repeat (go_quiet (first | ((with_reducible refine gate_dst (N := 33) rfl ?_); (try (refine gate_guard (by rfl) ?_; dsimp only)); refine Kd.N_lit k67 _ 67 ?hg (N' := 33) ?hd (xs := ([(⟨a0_0, a0_1, a0_2, (⟨a0_3, a0_4, a0_5, l0_6⟩ : S34), a0_7⟩ : S67)] : List (S67))) (inner := [.int .i64 a0_0, .string a0_1, .string a0_2, .int .i64 a0_3, .int .i64 a0_4, .string a0_5, .slice A0_6 l0_6.length c0_6, .int .i64 a0_7]) (ok := (fun k_ => (P0_6_ k_ ∨ w.heap.size ≤ k_) ∧ k_ ≠ gb101)) (okp := (fun k_ => (P0_6_ k_ ∨ w.heap.size ≤ k_) ∧ k_ ≠ gb101)) ?hr ?hp (fun _ hk => hk) ((show ∀ k_, wc.heap.size ≤ k_ → (fun k_ => (P0_6_ k_ ∨ w.heap.size ≤ k_) ∧ k_ ≠ gb101) k_ from fun k_ hk => ⟨(.inr (Nat.le_trans (below_size (by repeat (first | (with_reducible first | exact HB.out | apply below_alloc | apply pw_below_drewN | apply below_drew1 | refine below_set ?_ GE101.out) | exact HB.out))) hk)), Kd.freshB (g := gb101) (o := .cells #[.int .i64 a0_0, .string a0_1, .string a0_2, .int .i64 a0_3, .int .i64 a0_4, .string a0_5, .slice A0_6 l0_6.length c0_6, .int .i64 a0_7] 67 (0, 0)) (by (with_reducible repeat (first | refine blk_drewN ?_ _ | refine blk_drew ?_ | refine blk_alloc ?_ _)); exact BK101.out) k_ hk⟩) _ (Nat.le_refl _)) (Below.refl _ _) (Nat.le_refl _) (by simp) ?_; (case hd => rfl); (case hg => rfl); (case hr => first | (go_simp; done) | (go_simp; rfl)); (case hp => exact (Reps.c8 (show Kd.FK k67 _ _ (⟨a0_0, a0_1, a0_2, (⟨a0_3, a0_4, a0_5, l0_6⟩ : S34), a0_7⟩ : S67) [.int .i64 a0_0, .string a0_1, .string a0_2, .int .i64 a0_3, .int .i64 a0_4, .string a0_5, .slice A0_6 l0_6.length c0_6, .int .i64 a0_7] from (k67_mkF _ _ (⟨a0_0, a0_1, a0_2, (⟨a0_3, a0_4, a0_5, l0_6⟩ : S34), a0_7⟩ : S67) (Kd.V_reads' (Kd.V_mono (ok' := (fun k_ => (P0_6_ k_ ∨ w.heap.size ≤ k_) ∧ k_ ≠ gb101)) (HO_102006.out) (fun k_ hk => ⟨hk.1, hk.2⟩))).2.1 (Kd.V_F (Kd.V_mono (ok' := (fun k_ => (P0_6_ k_ ∨ w.heap.size ≤ k_) ∧ k_ ≠ gb101)) (HO_102006.out) (fun k_ hk => ⟨hk.1, hk.2⟩))))) (Reps.none _ _))); intro v109 w21 ho22 hb hg_ hnew_; clear hg_ hnew_; (first | rw [← Ny108.out] at ho22 | (simp only [Int.reduceToNat] at ho22; rw [← Ny108.out] at ho22)); have n0_ := Aside0.mk (Kd.V_elder' (by (with_reducible repeat (first | apply Kd.V_alloc | apply Kd.V_drewN | apply Kd.V_drew)); exact HO_102006.out) (Kd.N_base ho22) hb); have n1_ := Aside0.mk (Kd.N_lower ho22 (below_size (by repeat (first | (with_reducible first | exact HB.out | apply below_alloc | apply pw_below_drewN | apply below_drew1 | refine below_set ?_ GE101.out) | exact HB.out)))); have n2_ := Aside0.mk (blk_below (g := gb101) (o := .cells #[.int .i64 a0_0, .string a0_1, .string a0_2, .int .i64 a0_3, .int .i64 a0_4, .string a0_5, .slice A0_6 l0_6.length c0_6, .int .i64 a0_7] 67 (0, 0)) (by (with_reducible repeat (first | refine blk_drewN ?_ _ | refine blk_drew ?_ | refine blk_alloc ?_ _)); exact BK101.out) hb); have n3_ := Aside0.mk (below_step (by repeat (first | (with_reducible first | exact HB.out | apply below_alloc | apply pw_below_drewN | apply below_drew1 | refine below_set ?_ GE101.out) | exact HB.out)) hb); clear HO_102006; clear BK101; clear HB; have HO_102006 := n0_; have HO110 := n1_; have BK101 := n2_; have HB := n3_; clear n0_ n1_ n2_ n3_; clear hb ho22; obtain ⟨Ao23, co23, eo23⟩ := Kd.N_slice HO110.out; subst eo23) | (go_at_call 38; (with_reducible refine (prog_Scan.calls kj5 _ _ y108 0 0 _ _ l1 t111 t112 t113 t116 t117 _ ?side1 ?side2 ?side3 ?side4 A17.out (by first | exact HT0.out | exact UT.below HT0.out (by repeat (first | (with_reducible first | exact HB.out | apply below_alloc | apply pw_below_drewN | apply below_drew1 | refine below_set ?_ GE101.out) | exact HB.out)))).mono ?_); (case side1 => repeat (first | exact (Kd.N_reads' HO110.out).2.2 | (with_reducible refine Kd.C_alloc ?_ _) | (with_reducible refine Kd.C_drewN ?_ _) | (with_reducible refine Kd.C_drew ?_))); (case side2 => exact (Kd.N_reads' HO110.out).2.1); (case side3 => repeat (first | exact (Kd.C_below HR1.out HB.out) | (with_reducible refine Kd.C_alloc ?_ _) | (with_reducible refine Kd.C_drewN ?_ _) | (with_reducible refine Kd.C_drew ?_))); (case side4 => exact HC1.out); rintro e w24 ⟨v114, rfl, ho0, hb⟩; have n0_ := Aside0.mk (Kd.V_elder' (by (with_reducible repeat (first | apply Kd.V_alloc | apply Kd.V_drewN | apply Kd.V_drew)); exact HO_102006.out) (Kd.R_base ho0) hb); have n1_ := Aside0.mk (Kd.N_elder' (by (with_reducible repeat (first | apply Kd.N_alloc | apply Kd.N_drewN | apply Kd.N_drew)); exact HO110.out) (Kd.R_base ho0) hb); have n2_ := Aside0.mk (Kd.R_lower (Kd.R_newM (M := fun k_ => (w.heap.size ≤ k_)) ho0 (below_size (by repeat (first | (with_reducible first | exact HB.out | apply below_alloc | apply pw_below_drewN | apply below_drew1 | refine below_set ?_ GE101.out) | exact HB.out))) (fun k_ h_ => h_)) (below_size (by repeat (first | (with_reducible first | exact HB.out | apply below_alloc | apply pw_below_drewN | apply below_drew1 | refine below_set ?_ GE101.out) | exact HB.out)))); have n3_ := Aside0.mk (blk_below (g := gb101) (o := .cells #[.int .i64 a0_0, .string a0_1, .string a0_2, .int .i64 a0_3, .int .i64 a0_4, .string a0_5, .slice A0_6 l0_6.length c0_6, .int .i64 a0_7] 67 (0, 0)) (by (with_reducible repeat (first | refine blk_drewN ?_ _ | refine blk_drew ?_ | refine blk_alloc ?_ _)); exact BK101.out) hb); have n4_ := Aside0.mk (below_step (by repeat (first | (with_reducible first | exact HB.out | apply below_alloc | apply pw_below_drewN | apply below_drew1 | refine below_set ?_ GE101.out) | exact HB.out)) hb); clear HO_102006; clear HO110; clear BK101; clear HB; have HO_102006 := n0_; have HO110 := n1_; have HO115 := n2_; have BK101 := n3_; have HB := n4_; clear n0_ n1_ n2_ n3_ n4_; (try clear hb); (try clear hb2); (try clear hk); (try clear hi); (try clear ho0)) | ((with_reducible refine gate_dst (N := 8) rfl ?_); (try (refine gate_guard (by rfl) ?_; dsimp only)); refine box_event ?hg (N := 8) ?hd (cs := #[.int .i64 0, .int .i64 0]) (t := 57) ?hr ?_; (case hd => rfl); (case hg => rfl); (case hr => first | (go_simp; done) | (go_simp; rfl)); intro gb118 hg w25 hbox hb; have n0_ := Aside0.mk (Kd.V_below (Kd.V_elderB (by (with_reducible repeat (first | apply Kd.V_alloc | apply Kd.V_drewN | apply Kd.V_drew)); exact HO_102006.out) gb118 (Nat.le_of_eq hg.symm)) hb); have n1_ := Aside0.mk (Kd.N_below (Kd.N_elderB (by (with_reducible repeat (first | apply Kd.N_alloc | apply Kd.N_drewN | apply Kd.N_drew)); exact HO110.out) gb118 (Nat.le_of_eq hg.symm)) hb); have n2_ := Aside0.mk (Kd.R_below (by (with_reducible repeat (first | apply Kd.R_alloc | apply Kd.R_drewN | apply Kd.R_drew)); exact HO115.out) hb); have n3_ := Aside0.mk (blk_below (g := gb101) (o := .cells #[.int .i64 a0_0, .string a0_1, .string a0_2, .int .i64 a0_3, .int .i64 a0_4, .string a0_5, .slice A0_6 l0_6.length c0_6, .int .i64 a0_7] 67 (0, 0)) (by (with_reducible repeat (first | refine blk_drewN ?_ _ | refine blk_drew ?_ | refine blk_alloc ?_ _)); exact BK101.out) hb); have n4_ := Aside0.mk (below_step (by repeat (first | (with_reducible first | exact HB.out | apply below_alloc | apply pw_below_drewN | apply below_drew1 | refine below_set ?_ GE101.out) | exact HB.out)) hb); have n5_ := Aside0.mk (hbox); have n6_ := Aside0.mk ((by rw [hg]; exact (below_size (by repeat (first | (with_reducible first | exact HB.out | apply below_alloc | apply pw_below_drewN | apply below_drew1 | refine below_set ?_ GE101.out) | exact HB.out))) : w.heap.size ≤ gb118)); have n7_ := Aside0.mk ((by rw [hg]; exact (below_size (by repeat (first | (with_reducible first | exact HB.out | apply below_alloc | apply pw_below_drewN | apply below_drew1 | refine below_set ?_ GE101.out) | exact HB.out))) : w.heap.size ≤ gb118)); have n8_ := Aside0.mk ((by rw [hg]; exact Nat.ne_of_lt (blk_lt (g := gb101) (o := .cells #[.int .i64 a0_0, .string a0_1, .string a0_2, .int .i64 a0_3, .int .i64 a0_4, .string a0_5, .slice A0_6 l0_6.length c0_6, .int .i64 a0_7] 67 (0, 0)) (by (with_reducible repeat (first | refine blk_drewN ?_ _ | refine blk_drew ?_ | refine blk_alloc ?_ _)); exact BK101.out)) : gb101 ≠ gb118)); have n9_ := Aside0.mk ((by rw [hg]; exact Nat.ne_of_gt (blk_lt (g := gb101) (o := .cells #[.int .i64 a0_0, .string a0_1, .string a0_2, .int .i64 a0_3, .int .i64 a0_4, .string a0_5, .slice A0_6 l0_6.length c0_6, .int .i64 a0_7] 67 (0, 0)) (by (with_reducible repeat (first | refine blk_drewN ?_ _ | refine blk_drew ?_ | refine blk_alloc ?_ _)); exact BK101.out)) : gb118 ≠ gb101)); clear HO_102006; clear HO110; clear HO115; clear BK101; clear HB; have HO_102006 := n0_; have HO110 := n1_; have HO115 := n2_; have BK101 := n3_; have HB := n4_; have BK118 := n5_; have GW118 := n6_; have GE118 := n7_; have NB101_118 := n8_; have NB118_101 := n9_; clear n0_ n1_ n2_ n3_ n4_ n5_ n6_ n7_ n8_ n9_; clear hb hbox hg; have hnb26 := NB118_101.out; have hnc26 := NB101_118.out; have hcz27_0 : w25.cell? ⟨gb118, 0, none⟩ = some (.int .i64 0) := (blk_cell BK118.out 0).trans rfl; have hcz27_1 : w25.cell? ⟨gb118, 1, none⟩ = some (.int .i64 0) := (blk_cell BK118.out 1).trans rfl; have hfz27_0 := blk_frozen BK118.out 0; have hfz27_1 := blk_frozen BK118.out 1; have hcz28_0 : w25.cell? ⟨gb101, 0, none⟩ = some (.int .i64 a0_0) := (blk_cell BK101.out 0).trans rfl; have hcz28_1 : w25.cell? ⟨gb101, 1, none⟩ = some (.string a0_1) := (blk_cell BK101.out 1).trans rfl; have hcz28_2 : w25.cell? ⟨gb101, 2, none⟩ = some (.string a0_2) := (blk_cell BK101.out 2).trans rfl; have hcz28_3 : w25.cell? ⟨gb101, 3, none⟩ = some (.int .i64 a0_3) := (blk_cell BK101.out 3).trans rfl; have hcz28_4 : w25.cell? ⟨gb101, 4, none⟩ = some (.int .i64 a0_4) := (blk_cell BK101.out 4).trans rfl; have hcz28_5 : w25.cell? ⟨gb101, 5, none⟩ = some (.string a0_5) := (blk_cell BK101.out 5).trans rfl; have hcz28_6 : w25.cell? ⟨gb101, 6, none⟩ = some (.slice A0_6 l0_6.length c0_6) := (blk_cell BK101.out 6).trans rfl; have hcz28_7 : w25.cell? ⟨gb101, 7, none⟩ = some (.int .i64 a0_7) := (blk_cell BK101.out 7).trans rfl; have hfz28_0 := blk_frozen BK101.out 0; have hfz28_1 := blk_frozen BK101.out 1; have hfz28_2 := blk_frozen BK101.out 2; have hfz28_3 := blk_frozen BK101.out 3; have hfz28_4 := blk_frozen BK101.out 4; have hfz28_5 := blk_frozen BK101.out 5; have hfz28_6 := blk_frozen BK101.out 6; have hfz28_7 := blk_frozen BK101.out 7) | (go_at_call 30; (with_reducible refine (expr_Eval.calls kj5 a0_3 a0_4 a0_5 _ _ l0_6 _ _ l1 t119 t120 _ ?side1 ?side2 ?side3 ?side4 A18.out (by first | exact HT0.out | exact UT.below HT0.out (by repeat (first | exact HB.out | exact Below.refl _ _ | apply below_alloc | apply pw_below_drewN | apply below_drew1 | refine below_set ?_ GE101.out | refine below_set ?_ GE102.out | refine below_set ?_ GE103.out | refine below_set ?_ GE104.out | refine below_set ?_ GE105.out | refine below_set ?_ GE106.out | refine below_set ?_ GE107.out | refine below_set ?_ GE108.out | refine below_set ?_ GE109.out | refine below_set ?_ GE110.out | refine below_set ?_ GE111.out | refine below_set ?_ GE112.out | refine below_set ?_ GE113.out | refine below_set ?_ GE114.out | refine below_set ?_ GE115.out | refine below_set ?_ GE116.out | refine below_set ?_ GE117.out | refine below_set ?_ GE118.out | refine below_set ?_ GE119.out | refine below_set ?_ GE120.out | refine below_set ?_ GE121.out | refine below_set ?_ GE122.out | refine below_set ?_ GE123.out | refine below_set ?_ GE124.out | refine below_set ?_ GE125.out | refine below_set ?_ GE126.out | refine below_set ?_ GE127.out | refine below_set ?_ GE128.out | refine below_set ?_ GE129.out | refine below_set ?_ GE130.out)))).mono ?_); (case side1 => refine (Kd.V_reads' (e := 34) (base := w.heap.size) (ok := fun k_ => (((((P0_6_ k_ ∨ w.heap.size ≤ k_) ∧ k_ ≠ gb101) ∧ some k_ ≠ (.slice Ao23 y108.length co23 : Value).ownBlock) ∧ some k_ ≠ (v114 : Value).ownBlock) ∧ k_ ≠ gb118)) (n := l0_6.length) (c := c0_6) ?_).2.2; exact (by (with_reducible repeat (first | apply Kd.V_alloc | apply Kd.V_drewN | apply Kd.V_drew)); exact (Kd.V_mono (Kd.V_far (p := ⟨gb118, 1, none⟩) (Kd.V_far (p := ⟨gb118, 0, none⟩) (Kd.V_mono HO_102006.out (fun k_ hk => (⟨hk, hk.2⟩ : _ ∧ k_ ≠ gb118))) (fun _ hk => hk.2) (.int .i64 t111)) (fun _ hk => hk.2) (.int .i64 t112)) (fun _ h_ => h_.1)))); (case side2 => exact (Kd.V_reads' HO_102006.out).2.1); (case side3 => exact Kd.C_below HR1.out (by repeat (first | (with_reducible first | exact HB.out | apply below_alloc | apply pw_below_drewN | apply below_drew1 | refine below_set ?_ GE101.out | refine below_set ?_ GE118.out) | exact HB.out))); (case side4 => exact HC1.out); rintro e w29 ⟨rfl, hb⟩; have n0_ := Aside0.mk (Kd.V_below (by (with_reducible repeat (first | apply Kd.V_alloc | apply Kd.V_drewN | apply Kd.V_drew)); exact (Kd.V_mono (Kd.V_far (p := ⟨gb118, 1, none⟩) (Kd.V_far (p := ⟨gb118, 0, none⟩) (Kd.V_mono HO_102006.out (fun k_ hk => (⟨hk, hk.2⟩ : _ ∧ k_ ≠ gb118))) (fun _ hk => hk.2) (.int .i64 t111)) (fun _ hk => hk.2) (.int .i64 t112)) (fun _ h_ => h_.1))) hb); have n1_ := Aside0.mk (Kd.N_below (by (with_reducible repeat (first | apply Kd.N_alloc | apply Kd.N_drewN | apply Kd.N_drew)); exact (Kd.N_mono (Kd.N_far (p := ⟨gb118, 1, none⟩) (Kd.N_far (p := ⟨gb118, 0, none⟩) (Kd.N_mono HO110.out (fun k_ hk => (⟨hk, hk.2⟩ : _ ∧ k_ ≠ gb118))) (fun _ hk => hk.2) (.int .i64 t111)) (fun _ hk => hk.2) (.int .i64 t112)) (fun _ h_ => h_.1))) hb); have n2_ := Aside0.mk (Kd.R_below (by (with_reducible repeat (first | apply Kd.R_alloc | apply Kd.R_drewN | apply Kd.R_drew)); exact (Kd.R_mono (Kd.R_far (p := ⟨gb118, 1, none⟩) (Kd.R_far (p := ⟨gb118, 0, none⟩) (Kd.R_types HO115.out BK118.out (by decide)) (fun _ hk => hk.2) (.int .i64 t111)) (fun _ hk => hk.2) (.int .i64 t112)) (fun _ h_ => h_.1))) hb); have n3_ := Aside0.mk (blk_below (g := gb101) (o := .cells #[.int .i64 a0_0, .string a0_1, .string a0_2, .int .i64 a0_3, .int .i64 a0_4, .string a0_5, .slice A0_6 l0_6.length c0_6, .int .i64 a0_7] 67 (0, 0)) (by (with_reducible repeat (first | refine blk_drewN ?_ _ | refine blk_drew ?_ | refine blk_alloc ?_ _)); refine blk_far ?_ NB101_118.out _; (with_reducible repeat (first | refine blk_drewN ?_ _ | refine blk_drew ?_ | refine blk_alloc ?_ _)); refine blk_far ?_ NB101_118.out _; (with_reducible repeat (first | refine blk_drewN ?_ _ | refine blk_drew ?_ | refine blk_alloc ?_ _)); exact BK101.out) hb); have n4_ := Aside0.mk (blk_below (g := gb118) (o := .cells #[.int .i64 t111, .int .i64 t112] 57 (0, 0)) (by (with_reducible repeat (first | refine blk_drewN ?_ _ | refine blk_drew ?_ | refine blk_alloc ?_ _)); refine blk_put (cs := #[.int .i64 t111, .int .i64 0]) ?_ 1 _ rfl; (with_reducible repeat (first | refine blk_drewN ?_ _ | refine blk_drew ?_ | refine blk_alloc ?_ _)); refine blk_put (cs := #[.int .i64 0, .int .i64 0]) ?_ 0 _ rfl; (with_reducible repeat (first | refine blk_drewN ?_ _ | refine blk_drew ?_ | refine blk_alloc ?_ _)); exact BK118.out) hb); have n5_ := Aside0.mk (below_step (by repeat (first | (with_reducible first | exact HB.out | apply below_alloc | apply pw_below_drewN | apply below_drew1 | refine below_set ?_ GE101.out | refine below_set ?_ GE118.out) | exact HB.out)) hb); clear HO_102006; clear HO110; clear HO115; clear BK101; clear BK118; clear HB; have HO_102006 := n0_; have HO110 := n1_; have HO115 := n2_; have BK101 := n3_; have BK118 := n4_; have HB := n5_; clear n0_ n1_ n2_ n3_ n4_ n5_; (try clear hb); (try clear hb2); (try clear hk); (try clear hi); have hcz30_0 : w29.cell? ⟨gb101, 0, none⟩ = some (.int .i64 a0_0) := (blk_cell BK101.out 0).trans rfl; have hcz30_1 : w29.cell? ⟨gb101, 1, none⟩ = some (.string a0_1) := (blk_cell BK101.out 1).trans rfl; have hcz30_2 : w29.cell? ⟨gb101, 2, none⟩ = some (.string a0_2) := (blk_cell BK101.out 2).trans rfl; have hcz30_3 : w29.cell? ⟨gb101, 3, none⟩ = some (.int .i64 a0_3) := (blk_cell BK101.out 3).trans rfl; have hcz30_4 : w29.cell? ⟨gb101, 4, none⟩ = some (.int .i64 a0_4) := (blk_cell BK101.out 4).trans rfl; have hcz30_5 : w29.cell? ⟨gb101, 5, none⟩ = some (.string a0_5) := (blk_cell BK101.out 5).trans rfl; have hcz30_6 : w29.cell? ⟨gb101, 6, none⟩ = some (.slice A0_6 l0_6.length c0_6) := (blk_cell BK101.out 6).trans rfl; have hcz30_7 : w29.cell? ⟨gb101, 7, none⟩ = some (.int .i64 a0_7) := (blk_cell BK101.out 7).trans rfl; have hfz30_0 := blk_frozen BK101.out 0; have hfz30_1 := blk_frozen BK101.out 1; have hfz30_2 := blk_frozen BK101.out 2; have hfz30_3 := blk_frozen BK101.out 3; have hfz30_4 := blk_frozen BK101.out 4; have hfz30_5 := blk_frozen BK101.out 5; have hfz30_6 := blk_frozen BK101.out 6; have hfz30_7 := blk_frozen BK101.out 7)); go_upto_if 50 with (first | ((with_reducible refine gate_dst (N := 33) rfl ?_); (try (refine gate_guard (by rfl) ?_; dsimp only)); refine Kd.N_lit k67 _ 67 ?hg (N' := 33) ?hd (xs := ([(⟨a0_0, a0_1, a0_2, (⟨a0_3, a0_4, a0_5, l0_6⟩ : S34), a0_7⟩ : S67)] : List (S67))) (inner := [.int .i64 a0_0, .string a0_1, .string a0_2, .int .i64 a0_3, .int .i64 a0_4, .string a0_5, .slice A0_6 l0_6.length c0_6, .int .i64 a0_7]) (ok := (fun k_ => (P0_6_ k_ ∨ w.heap.size ≤ k_) ∧ k_ ≠ gb101)) (okp := (fun k_ => (P0_6_ k_ ∨ w.heap.size ≤ k_) ∧ k_ ≠ gb101)) ?hr ?hp (fun _ hk => hk) ((show ∀ k_, wc.heap.size ≤ k_ → (fun k_ => (P0_6_ k_ ∨ w.heap.size ≤ k_) ∧ k_ ≠ gb101) k_ from fun k_ hk => ⟨(.inr (Nat.le_trans (below_size (by repeat (first | (with_reducible first | exact HB.out | apply below_alloc | apply pw_below_drewN | apply below_drew1 | refine below_set ?_ GE101.out) | exact HB.out))) hk)), Kd.freshB (g := gb101) (o := .cells #[.int .i64 a0_0, .string a0_1, .string a0_2, .int .i64 a0_3, .int .i64 a0_4, .string a0_5, .slice A0_6 l0_6.length c0_6, .int .i64 a0_7] 67 (0, 0)) (by (with_reducible repeat (first | refine blk_drewN ?_ _ | refine blk_drew ?_ | refine blk_alloc ?_ _)); exact BK101.out) k_ hk⟩) _ (Nat.le_refl _)) (Below.refl _ _) (Nat.le_refl _) (by simp) ?_; (case hd => rfl); (case hg => rfl); (case hr => first | (go_simp; done) | (go_simp; rfl)); (case hp => exact (Reps.c8 (show Kd.FK k67 _ _ (⟨a0_0, a0_1, a0_2, (⟨a0_3, a0_4, a0_5, l0_6⟩ : S34), a0_7⟩ : S67) [.int .i64 a0_0, .string a0_1, .string a0_2, .int .i64 a0_3, .int .i64 a0_4, .string a0_5, .slice A0_6 l0_6.length c0_6, .int .i64 a0_7] from (k67_mkF _ _ (⟨a0_0, a0_1, a0_2, (⟨a0_3, a0_4, a0_5, l0_6⟩ : S34), a0_7⟩ : S67) (Kd.V_reads' (Kd.V_mono (ok' := (fun k_ => (P0_6_ k_ ∨ w.heap.size ≤ k_) ∧ k_ ≠ gb101)) (HO_102006.out) (fun k_ hk => ⟨hk.1, hk.2⟩))).2.1 (Kd.V_F (Kd.V_mono (ok' := (fun k_ => (P0_6_ k_ ∨ w.heap.size ≤ k_) ∧ k_ ≠ gb101)) (HO_102006.out) (fun k_ hk => ⟨hk.1, hk.2⟩))))) (Reps.none _ _))); intro v109 w21 ho22 hb hg_ hnew_; clear hg_ hnew_; (first | rw [← Ny108.out] at ho22 | (simp only [Int.reduceToNat] at ho22; rw [← Ny108.out] at ho22)); have n0_ := Aside0.mk (Kd.V_elder' (by (with_reducible repeat (first | apply Kd.V_alloc | apply Kd.V_drewN | apply Kd.V_drew)); exact HO_102006.out) (Kd.N_base ho22) hb); have n1_ := Aside0.mk (Kd.N_lower ho22 (below_size (by repeat (first | (with_reducible first | exact HB.out | apply below_alloc | apply pw_below_drewN | apply below_drew1 | refine below_set ?_ GE101.out) | exact HB.out)))); have n2_ := Aside0.mk (blk_below (g := gb101) (o := .cells #[.int .i64 a0_0, .string a0_1, .string a0_2, .int .i64 a0_3, .int .i64 a0_4, .string a0_5, .slice A0_6 l0_6.length c0_6, .int .i64 a0_7] 67 (0, 0)) (by (with_reducible repeat (first | refine blk_drewN ?_ _ | refine blk_drew ?_ | refine blk_alloc ?_ _)); exact BK101.out) hb); have n3_ := Aside0.mk (below_step (by repeat (first | (with_reducible first | exact HB.out | apply below_alloc | apply pw_below_drewN | apply below_drew1 | refine below_set ?_ GE101.out) | exact HB.out)) hb); clear HO_102006; clear BK101; clear HB; have HO_102006 := n0_; have HO110 := n1_; have BK101 := n2_; have HB := n3_; clear n0_ n1_ n2_ n3_; clear hb ho22; obtain ⟨Ao23, co23, eo23⟩ := Kd.N_slice HO110.out; subst eo23) | (go_at_call 38; (with_reducible refine (prog_Scan.calls kj5 _ _ y108 0 0 _ _ l1 t111 t112 t113 t116 t117 _ ?side1 ?side2 ?side3 ?side4 A17.out (by first | exact HT0.out | exact UT.below HT0.out (by repeat (first | (with_reducible first | exact HB.out | apply below_alloc | apply pw_below_drewN | apply below_drew1 | refine below_set ?_ GE101.out) | exact HB.out)))).mono ?_); (case side1 => repeat (first | exact (Kd.N_reads' HO110.out).2.2 | (with_reducible refine Kd.C_alloc ?_ _) | (with_reducible refine Kd.C_drewN ?_ _) | (with_reducible refine Kd.C_drew ?_))); (case side2 => exact (Kd.N_reads' HO110.out).2.1); (case side3 => repeat (first | exact (Kd.C_below HR1.out HB.out) | (with_reducible refine Kd.C_alloc ?_ _) | (with_reducible refine Kd.C_drewN ?_ _) | (with_reducible refine Kd.C_drew ?_))); (case side4 => exact HC1.out); rintro e w24 ⟨v114, rfl, ho0, hb⟩; have n0_ := Aside0.mk (Kd.V_elder' (by (with_reducible repeat (first | apply Kd.V_alloc | apply Kd.V_drewN | apply Kd.V_drew)); exact HO_102006.out) (Kd.R_base ho0) hb); have n1_ := Aside0.mk (Kd.N_elder' (by (with_reducible repeat (first | apply Kd.N_alloc | apply Kd.N_drewN | apply Kd.N_drew)); exact HO110.out) (Kd.R_base ho0) hb); have n2_ := Aside0.mk (Kd.R_lower (Kd.R_newM (M := fun k_ => (w.heap.size ≤ k_)) ho0 (below_size (by repeat (first | (with_reducible first | exact HB.out | apply below_alloc | apply pw_below_drewN | apply below_drew1 | refine below_set ?_ GE101.out) | exact HB.out))) (fun k_ h_ => h_)) (below_size (by repeat (first | (with_reducible first | exact HB.out | apply below_alloc | apply pw_below_drewN | apply below_drew1 | refine below_set ?_ GE101.out) | exact HB.out)))); have n3_ := Aside0.mk (blk_below (g := gb101) (o := .cells #[.int .i64 a0_0, .string a0_1, .string a0_2, .int .i64 a0_3, .int .i64 a0_4, .string a0_5, .slice A0_6 l0_6.length c0_6, .int .i64 a0_7] 67 (0, 0)) (by (with_reducible repeat (first | refine blk_drewN ?_ _ | refine blk_drew ?_ | refine blk_alloc ?_ _)); exact BK101.out) hb); have n4_ := Aside0.mk (below_step (by repeat (first | (with_reducible first | exact HB.out | apply below_alloc | apply pw_below_drewN | apply below_drew1 | refine below_set ?_ GE101.out) | exact HB.out)) hb); clear HO_102006; clear HO110; clear BK101; clear HB; have HO_102006 := n0_; have HO110 := n1_; have HO115 := n2_; have BK101 := n3_; have HB := n4_; clear n0_ n1_ n2_ n3_ n4_; (try clear hb); (try clear hb2); (try clear hk); (try clear hi); (try clear ho0)) | ((with_reducible refine gate_dst (N := 8) rfl ?_); (try (refine gate_guard (by rfl) ?_; dsimp only)); refine box_event ?hg (N := 8) ?hd (cs := #[.int .i64 0, .int .i64 0]) (t := 57) ?hr ?_; (case hd => rfl); (case hg => rfl); (case hr => first | (go_simp; done) | (go_simp; rfl)); intro gb118 hg w25 hbox hb; have n0_ := Aside0.mk (Kd.V_below (Kd.V_elderB (by (with_reducible repeat (first | apply Kd.V_alloc | apply Kd.V_drewN | apply Kd.V_drew)); exact HO_102006.out) gb118 (Nat.le_of_eq hg.symm)) hb); have n1_ := Aside0.mk (Kd.N_below (Kd.N_elderB (by (with_reducible repeat (first | apply Kd.N_alloc | apply Kd.N_drewN | apply Kd.N_drew)); exact HO110.out) gb118 (Nat.le_of_eq hg.symm)) hb); have n2_ := Aside0.mk (Kd.R_below (by (with_reducible repeat (first | apply Kd.R_alloc | apply Kd.R_drewN | apply Kd.R_drew)); exact HO115.out) hb); have n3_ := Aside0.mk (blk_below (g := gb101) (o := .cells #[.int .i64 a0_0, .string a0_1, .string a0_2, .int .i64 a0_3, .int .i64 a0_4, .string a0_5, .slice A0_6 l0_6.length c0_6, .int .i64 a0_7] 67 (0, 0)) (by (with_reducible repeat (first | refine blk_drewN ?_ _ | refine blk_drew ?_ | refine blk_alloc ?_ _)); exact BK101.out) hb); have n4_ := Aside0.mk (below_step (by repeat (first | (with_reducible first | exact HB.out | apply below_alloc | apply pw_below_drewN | apply below_drew1 | refine below_set ?_ GE101.out) | exact HB.out)) hb); have n5_ := Aside0.mk (hbox); have n6_ := Aside0.mk ((by rw [hg]; exact (below_size (by repeat (first | (with_reducible first | exact HB.out | apply below_alloc | apply pw_below_drewN | apply below_drew1 | refine below_set ?_ GE101.out) | exact HB.out))) : w.heap.size ≤ gb118)); have n7_ := Aside0.mk ((by rw [hg]; exact (below_size (by repeat (first | (with_reducible first | exact HB.out | apply below_alloc | apply pw_below_drewN | apply below_drew1 | refine below_set ?_ GE101.out) | exact HB.out))) : w.heap.size ≤ gb118)); have n8_ := Aside0.mk ((by rw [hg]; exact Nat.ne_of_lt (blk_lt (g := gb101) (o := .cells #[.int .i64 a0_0, .string a0_1, .string a0_2, .int .i64 a0_3, .int .i64 a0_4, .string a0_5, .slice A0_6 l0_6.length c0_6, .int .i64 a0_7] 67 (0, 0)) (by (with_reducible repeat (first | refine blk_drewN ?_ _ | refine blk_drew ?_ | refine blk_alloc ?_ _)); exact BK101.out)) : gb101 ≠ gb118)); have n9_ := Aside0.mk ((by rw [hg]; exact Nat.ne_of_gt (blk_lt (g := gb101) (o := .cells #[.int .i64 a0_0, .string a0_1, .string a0_2, .int .i64 a0_3, .int .i64 a0_4, .string a0_5, .slice A0_6 l0_6.length c0_6, .int .i64 a0_7] 67 (0, 0)) (by (with_reducible repeat (first | refine blk_drewN ?_ _ | refine blk_drew ?_ | refine blk_alloc ?_ _)); exact BK101.out)) : gb118 ≠ gb101)); clear HO_102006; clear HO110; clear HO115; clear BK101; clear HB; have HO_102006 := n0_; have HO110 := n1_; have HO115 := n2_; have BK101 := n3_; have HB := n4_; have BK118 := n5_; have GW118 := n6_; have GE118 := n7_; have NB101_118 := n8_; have NB118_101 := n9_; clear n0_ n1_ n2_ n3_ n4_ n5_ n6_ n7_ n8_ n9_; clear hb hbox hg; have hnb26 := NB118_101.out; have hnc26 := NB101_118.out; have hcz27_0 : w25.cell? ⟨gb118, 0, none⟩ = some (.int .i64 0) := (blk_cell BK118.out 0).trans rfl; have hcz27_1 : w25.cell? ⟨gb118, 1, none⟩ = some (.int .i64 0) := (blk_cell BK118.out 1).trans rfl; have hfz27_0 := blk_frozen BK118.out 0; have hfz27_1 := blk_frozen BK118.out 1; have hcz28_0 : w25.cell? ⟨gb101, 0, none⟩ = some (.int .i64 a0_0) := (blk_cell BK101.out 0).trans rfl; have hcz28_1 : w25.cell? ⟨gb101, 1, none⟩ = some (.string a0_1) := (blk_cell BK101.out 1).trans rfl; have hcz28_2 : w25.cell? ⟨gb101, 2, none⟩ = some (.string a0_2) := (blk_cell BK101.out 2).trans rfl; have hcz28_3 : w25.cell? ⟨gb101, 3, none⟩ = some (.int .i64 a0_3) := (blk_cell BK101.out 3).trans rfl; have hcz28_4 : w25.cell? ⟨gb101, 4, none⟩ = some (.int .i64 a0_4) := (blk_cell BK101.out 4).trans rfl; have hcz28_5 : w25.cell? ⟨gb101, 5, none⟩ = some (.string a0_5) := (blk_cell BK101.out 5).trans rfl; have hcz28_6 : w25.cell? ⟨gb101, 6, none⟩ = some (.slice A0_6 l0_6.length c0_6) := (blk_cell BK101.out 6).trans rfl; have hcz28_7 : w25.cell? ⟨gb101, 7, none⟩ = some (.int .i64 a0_7) := (blk_cell BK101.out 7).trans rfl; have hfz28_0 := blk_frozen BK101.out 0; have hfz28_1 := blk_frozen BK101.out 1; have hfz28_2 := blk_frozen BK101.out 2; have hfz28_3 := blk_frozen BK101.out 3; have hfz28_4 := blk_frozen BK101.out 4; have hfz28_5 := blk_frozen BK101.out 5; have hfz28_6 := blk_frozen BK101.out 6; have hfz28_7 := blk_frozen BK101.out 7) | (go_at_call 30; (with_reducible refine (expr_Eval.calls kj5 a0_3 a0_4 a0_5 _ _ l0_6 _ _ l1 t119 t120 _ ?side1 ?side2 ?side3 ?side4 A18.out (by first | exact HT0.out | exact UT.below HT0.out (by repeat (first | exact HB.out | exact Below.refl _ _ | apply below_alloc | apply pw_below_drewN | apply below_drew1 | refine below_set ?_ GE101.out | refine below_set ?_ GE102.out | refine below_set ?_ GE103.out | refine below_set ?_ GE104.out | refine below_set ?_ GE105.out | refine below_set ?_ GE106.out | refine below_set ?_ GE107.out | refine below_set ?_ GE108.out | refine below_set ?_ GE109.out | refine below_set ?_ GE110.out | refine below_set ?_ GE111.out | refine below_set ?_ GE112.out | refine below_set ?_ GE113.out | refine below_set ?_ GE114.out | refine below_set ?_ GE115.out | refine below_set ?_ GE116.out | refine below_set ?_ GE117.out | refine below_set ?_ GE118.out | refine below_set ?_ GE119.out | refine below_set ?_ GE120.out | refine below_set ?_ GE121.out | refine below_set ?_ GE122.out | refine below_set ?_ GE123.out | refine below_set ?_ GE124.out | refine below_set ?_ GE125.out | refine below_set ?_ GE126.out | refine below_set ?_ GE127.out | refine below_set ?_ GE128.out | refine below_set ?_ GE129.out | refine below_set ?_ GE130.out)))).mono ?_); (case side1 => refine (Kd.V_reads' (e := 34) (base := w.heap.size) (ok := fun k_ => (((((P0_6_ k_ ∨ w.heap.size ≤ k_) ∧ k_ ≠ gb101) ∧ some k_ ≠ (.slice Ao23 y108.length co23 : Value).ownBlock) ∧ some k_ ≠ (v114 : Value).ownBlock) ∧ k_ ≠ gb118)) (n := l0_6.length) (c := c0_6) ?_).2.2; exact (by (with_reducible repeat (first | apply Kd.V_alloc | apply Kd.V_drewN | apply Kd.V_drew)); exact (Kd.V_mono (Kd.V_far (p := ⟨gb118, 1, none⟩) (Kd.V_far (p := ⟨gb118, 0, none⟩) (Kd.V_mono HO_102006.out (fun k_ hk => (⟨hk, hk.2⟩ : _ ∧ k_ ≠ gb118))) (fun _ hk => hk.2) (.int .i64 t111)) (fun _ hk => hk.2) (.int .i64 t112)) (fun _ h_ => h_.1)))); (case side2 => exact (Kd.V_reads' HO_102006.out).2.1); (case side3 => exact Kd.C_below HR1.out (by repeat (first | (with_reducible first | exact HB.out | apply below_alloc | apply pw_below_drewN | apply below_drew1 | refine below_set ?_ GE101.out | refine below_set ?_ GE118.out) | exact HB.out))); (case side4 => exact HC1.out); rintro e w29 ⟨rfl, hb⟩; have n0_ := Aside0.mk (Kd.V_below (by (with_reducible repeat (first | apply Kd.V_alloc | apply Kd.V_drewN | apply Kd.V_drew)); exact (Kd.V_mono (Kd.V_far (p := ⟨gb118, 1, none⟩) (Kd.V_far (p := ⟨gb118, 0, none⟩) (Kd.V_mono HO_102006.out (fun k_ hk => (⟨hk, hk.2⟩ : _ ∧ k_ ≠ gb118))) (fun _ hk => hk.2) (.int .i64 t111)) (fun _ hk => hk.2) (.int .i64 t112)) (fun _ h_ => h_.1))) hb); have n1_ := Aside0.mk (Kd.N_below (by (with_reducible repeat (first | apply Kd.N_alloc | apply Kd.N_drewN | apply Kd.N_drew)); exact (Kd.N_mono (Kd.N_far (p := ⟨gb118, 1, none⟩) (Kd.N_far (p := ⟨gb118, 0, none⟩) (Kd.N_mono HO110.out (fun k_ hk => (⟨hk, hk.2⟩ : _ ∧ k_ ≠ gb118))) (fun _ hk => hk.2) (.int .i64 t111)) (fun _ hk => hk.2) (.int .i64 t112)) (fun _ h_ => h_.1))) hb); have n2_ := Aside0.mk (Kd.R_below (by (with_reducible repeat (first | apply Kd.R_alloc | apply Kd.R_drewN | apply Kd.R_drew)); exact (Kd.R_mono (Kd.R_far (p := ⟨gb118, 1, none⟩) (Kd.R_far (p := ⟨gb118, 0, none⟩) (Kd.R_types HO115.out BK118.out (by decide)) (fun _ hk => hk.2) (.int .i64 t111)) (fun _ hk => hk.2) (.int .i64 t112)) (fun _ h_ => h_.1))) hb); have n3_ := Aside0.mk (blk_below (g := gb101) (o := .cells #[.int .i64 a0_0, .string a0_1, .string a0_2, .int .i64 a0_3, .int .i64 a0_4, .string a0_5, .slice A0_6 l0_6.length c0_6, .int .i64 a0_7] 67 (0, 0)) (by (with_reducible repeat (first | refine blk_drewN ?_ _ | refine blk_drew ?_ | refine blk_alloc ?_ _)); refine blk_far ?_ NB101_118.out _; (with_reducible repeat (first | refine blk_drewN ?_ _ | refine blk_drew ?_ | refine blk_alloc ?_ _)); refine blk_far ?_ NB101_118.out _; (with_reducible repeat (first | refine blk_drewN ?_ _ | refine blk_drew ?_ | refine blk_alloc ?_ _)); exact BK101.out) hb); have n4_ := Aside0.mk (blk_below (g := gb118) (o := .cells #[.int .i64 t111, .int .i64 t112] 57 (0, 0)) (by (with_reducible repeat (first | refine blk_drewN ?_ _ | refine blk_drew ?_ | refine blk_alloc ?_ _)); refine blk_put (cs := #[.int .i64 t111, .int .i64 0]) ?_ 1 _ rfl; (with_reducible repeat (first | refine blk_drewN ?_ _ | refine blk_drew ?_ | refine blk_alloc ?_ _)); refine blk_put (cs := #[.int .i64 0, .int .i64 0]) ?_ 0 _ rfl; (with_reducible repeat (first | refine blk_drewN ?_ _ | refine blk_drew ?_ | refine blk_alloc ?_ _)); exact BK118.out) hb); have n5_ := Aside0.mk (below_step (by repeat (first | (with_reducible first | exact HB.out | apply below_alloc | apply pw_below_drewN | apply below_drew1 | refine below_set ?_ GE101.out | refine below_set ?_ GE118.out) | exact HB.out)) hb); clear HO_102006; clear HO110; clear HO115; clear BK101; clear BK118; clear HB; have HO_102006 := n0_; have HO110 := n1_; have HO115 := n2_; have BK101 := n3_; have BK118 := n4_; have HB := n5_; clear n0_ n1_ n2_ n3_ n4_ n5_; (try clear hb); (try clear hb2); (try clear hk); (try clear hi); have hcz30_0 : w29.cell? ⟨gb101, 0, none⟩ = some (.int .i64 a0_0) := (blk_cell BK101.out 0).trans rfl; have hcz30_1 : w29.cell? ⟨gb101, 1, none⟩ = some (.string a0_1) := (blk_cell BK101.out 1).trans rfl; have hcz30_2 : w29.cell? ⟨gb101, 2, none⟩ = some (.string a0_2) := (blk_cell BK101.out 2).trans rfl; have hcz30_3 : w29.cell? ⟨gb101, 3, none⟩ = some (.int .i64 a0_3) := (blk_cell BK101.out 3).trans rfl; have hcz30_4 : w29.cell? ⟨gb101, 4, none⟩ = some (.int .i64 a0_4) := (blk_cell BK101.out 4).trans rfl; have hcz30_5 : w29.cell? ⟨gb101, 5, none⟩ = some (.string a0_5) := (blk_cell BK101.out 5).trans rfl; have hcz30_6 : w29.cell? ⟨gb101, 6, none⟩ = some (.slice A0_6 l0_6.length c0_6) := (blk_cell BK101.out 6).trans rfl; have hcz30_7 : w29.cell? ⟨gb101, 7, none⟩ = some (.int .i64 a0_7) := (blk_cell BK101.out 7).trans rfl; have hfz30_0 := blk_frozen BK101.out 0; have hfz30_1 := blk_frozen BK101.out 1; have hfz30_2 := blk_frozen BK101.out 2; have hfz30_3 := blk_frozen BK101.out 3; have hfz30_4 := blk_frozen BK101.out 4; have hfz30_5 := blk_frozen BK101.out 5; have hfz30_6 := blk_frozen BK101.out 6; have hfz30_7 := blk_frozen BK101.out 7)))
        (try simp only [Act.put, List.setIfInBounds_toArray, List.set_cons_zero, List.set_cons_succ])
        go_cut [50] (fun v50 wc => ∃ (kq : Nat) (x50_18 : Bool), v50 = .bool x50_18 ∧ Aside0 (malthouselaw11_ProgWants.j1 kq t113 t117 t119 t120 a0_0 x50_18 a0_0 a0_1 a0_2 a0_3 a0_4 a0_5 l0_6 a0_7 = some r) ∧ Aside0 (kq ≤ kj5) ∧ Aside0 (Kd.R k72 72 wc w.heap.size (fun k_ => (w.heap.size ≤ k_)) v114 t113) ∧ Aside0 (Kd.V k34 34 wc w.heap.size (fun k_ => (P0_6_ k_ ∨ w.heap.size ≤ k_) ∧ some k_ ≠ (v114 : Value).ownBlock ∧ k_ ≠ gb101 ∧ k_ ≠ gb118) (.slice A0_6 l0_6.length c0_6) l0_6) ∧ Aside0 (wc.heap[gb101]? = some (.cells #[.int .i64 a0_0, .string a0_1, .string a0_2, .int .i64 a0_3, .int .i64 a0_4, .string a0_5, (.slice A0_6 l0_6.length c0_6), .int .i64 a0_7] 67 (0, 0))) ∧ Aside0 (wc.heap[gb118]? = some (.cells #[.int .i64 t111, .int .i64 t112] 57 (0, 0))) ∧ Aside0 (Below w.heap.size w wc))
        case first =>
          have H := HC19.out
          clear HC19
          by_cases c31 : a0_0 = 0
          · rw [if_pos c31] at H
            have c31b0 : (a0_0 == 0) = true := beq_iff_eq.mpr c31
            have c31b1 : (a0_0 != 0) = false := bne_eq_false_iff_eq.mpr c31
            clear c31
            (first | rw [c31b0] | (simp only [i64_w, i32_w]; rw [c31b0]) | skip)
            have H' := Aside0.mk H
            clear H
            go_wp2
            repeat (go_quiet (fail); try go_wp2)
            go_meet
            case rel => exact ⟨_, ((a0_0 == 0)), (by first | rfl | (simp; done) | (simp [*]; done)), H', ⟨by have := HJ5.out; first | omega | exact Nat.le_refl _⟩, ⟨by (with_reducible repeat (first | apply Kd.R_alloc | apply Kd.R_drewN | apply Kd.R_drew)); exact Kd.R_mono HO115.out (fun _ hk => hk.1)⟩, ⟨by (with_reducible repeat (first | apply Kd.V_alloc | apply Kd.V_drewN | apply Kd.V_drew)); exact Kd.V_mono HO_102006.out (fun _ hk => ⟨hk.1.1.1.1, ⟨hk.1.2, ⟨hk.1.1.1.2, hk.2⟩⟩⟩)⟩, ⟨by (with_reducible repeat (first | refine blk_drewN ?_ _ | refine blk_drew ?_ | refine blk_alloc ?_ _)); exact BK101.out⟩, ⟨by (with_reducible repeat (first | refine blk_drewN ?_ _ | refine blk_drew ?_ | refine blk_alloc ?_ _)); exact BK118.out⟩, ⟨by repeat (first | (with_reducible first | exact HB.out | apply below_alloc | apply pw_below_drewN | apply below_drew1 | refine below_set ?_ GE101.out | refine below_set ?_ GE118.out) | exact HB.out)⟩⟩
          · rw [if_neg c31] at H
            have c31b0 : (a0_0 == 0) = false := beq_eq_false_iff_ne.mpr c31
            have c31b1 : (a0_0 != 0) = true := bne_iff_ne.mpr c31
            (first | rw [c31b0] | (simp only [i64_w, i32_w]; rw [c31b0]) | skip)
            by_cases c32 : a0_0 = 3
            · rw [if_pos c32] at H
              have c32b0 : (a0_0 == 3) = true := beq_iff_eq.mpr c32
              have c32b1 : (a0_0 != 3) = false := bne_eq_false_iff_eq.mpr c32
              clear c32
              have H' := Aside0.mk H
              clear H
              go_wp2
              repeat (go_quiet (fail); try go_wp2)
              go_meet
              case rel => exact ⟨_, ((a0_0 == 3)), (by first | rfl | (simp; done) | (simp [*]; done)), H', ⟨by have := HJ5.out; first | omega | exact Nat.le_refl _⟩, ⟨by (with_reducible repeat (first | apply Kd.R_alloc | apply Kd.R_drewN | apply Kd.R_drew)); exact Kd.R_mono HO115.out (fun _ hk => hk.1)⟩, ⟨by (with_reducible repeat (first | apply Kd.V_alloc | apply Kd.V_drewN | apply Kd.V_drew)); exact Kd.V_mono HO_102006.out (fun _ hk => ⟨hk.1.1.1.1, ⟨hk.1.2, ⟨hk.1.1.1.2, hk.2⟩⟩⟩)⟩, ⟨by (with_reducible repeat (first | refine blk_drewN ?_ _ | refine blk_drew ?_ | refine blk_alloc ?_ _)); exact BK101.out⟩, ⟨by (with_reducible repeat (first | refine blk_drewN ?_ _ | refine blk_drew ?_ | refine blk_alloc ?_ _)); exact BK118.out⟩, ⟨by repeat (first | (with_reducible first | exact HB.out | apply below_alloc | apply pw_below_drewN | apply below_drew1 | refine below_set ?_ GE101.out | refine below_set ?_ GE118.out) | exact HB.out)⟩⟩
            · rw [if_neg c32] at H
              have c32b0 : (a0_0 == 3) = false := beq_eq_false_iff_ne.mpr c32
              have c32b1 : (a0_0 != 3) = true := bne_iff_ne.mpr c32
              by_cases c33 : a0_0 = 4
              · rw [if_pos c33] at H
                have c33b0 : (a0_0 == 4) = true := beq_iff_eq.mpr c33
                have c33b1 : (a0_0 != 4) = false := bne_eq_false_iff_eq.mpr c33
                clear c33
                have H' := Aside0.mk H
                clear H
                go_wp2
                repeat (go_quiet (fail); try go_wp2)
                go_meet
                case rel => exact ⟨_, ((a0_0 == 4)), (by first | rfl | (simp; done) | (simp [*]; done)), H', ⟨by have := HJ5.out; first | omega | exact Nat.le_refl _⟩, ⟨by (with_reducible repeat (first | apply Kd.R_alloc | apply Kd.R_drewN | apply Kd.R_drew)); exact Kd.R_mono HO115.out (fun _ hk => hk.1)⟩, ⟨by (with_reducible repeat (first | apply Kd.V_alloc | apply Kd.V_drewN | apply Kd.V_drew)); exact Kd.V_mono HO_102006.out (fun _ hk => ⟨hk.1.1.1.1, ⟨hk.1.2, ⟨hk.1.1.1.2, hk.2⟩⟩⟩)⟩, ⟨by (with_reducible repeat (first | refine blk_drewN ?_ _ | refine blk_drew ?_ | refine blk_alloc ?_ _)); exact BK101.out⟩, ⟨by (with_reducible repeat (first | refine blk_drewN ?_ _ | refine blk_drew ?_ | refine blk_alloc ?_ _)); exact BK118.out⟩, ⟨by repeat (first | (with_reducible first | exact HB.out | apply below_alloc | apply pw_below_drewN | apply below_drew1 | refine below_set ?_ GE101.out | refine below_set ?_ GE118.out) | exact HB.out)⟩⟩
              · rw [if_neg c33] at H
                have c33b0 : (a0_0 == 4) = false := beq_eq_false_iff_ne.mpr c33
                have c33b1 : (a0_0 != 4) = true := bne_iff_ne.mpr c33
                have H' := Aside0.mk H
                clear H
                go_wp2
                repeat (go_quiet (fail); try go_wp2)
                go_meet
                case rel => exact ⟨_, ((a0_0 == 5)), (by first | rfl | (simp; done) | (simp [*]; done)), H', ⟨by have := HJ5.out; first | omega | exact Nat.le_refl _⟩, ⟨by (with_reducible repeat (first | apply Kd.R_alloc | apply Kd.R_drewN | apply Kd.R_drew)); exact Kd.R_mono HO115.out (fun _ hk => hk.1)⟩, ⟨by (with_reducible repeat (first | apply Kd.V_alloc | apply Kd.V_drewN | apply Kd.V_drew)); exact Kd.V_mono HO_102006.out (fun _ hk => ⟨hk.1.1.1.1, ⟨hk.1.2, ⟨hk.1.1.1.2, hk.2⟩⟩⟩)⟩, ⟨by (with_reducible repeat (first | refine blk_drewN ?_ _ | refine blk_drew ?_ | refine blk_alloc ?_ _)); exact BK101.out⟩, ⟨by (with_reducible repeat (first | refine blk_drewN ?_ _ | refine blk_drew ?_ | refine blk_alloc ?_ _)); exact BK118.out⟩, ⟨by repeat (first | (with_reducible first | exact HB.out | apply below_alloc | apply pw_below_drewN | apply below_drew1 | refine below_set ?_ GE101.out | refine below_set ?_ GE118.out) | exact HB.out)⟩⟩
        case rest =>
          clear HC19
          try clear c1
          try clear c2
          try clear p2
          try clear c3
          try clear c8
          try clear c12
          try clear c14
          try clear c15
          try clear c16
          try clear c26
          try clear c31
          try clear c31b0
          try clear c31b1
          try clear c32
          try clear c32b0
          try clear c32b1
          try clear c33
          try clear c33b0
          try clear c33b1
          try clear hcz20_0
          try clear hcz20_1
          try clear hcz20_2
          try clear hcz20_3
          try clear hcz20_4
          try clear hcz20_5
          try clear hcz20_6
          try clear hcz20_7
          try clear hcz27_0
          try clear hcz27_1
          try clear hcz28_0
          try clear hcz28_1
          try clear hcz28_2
          try clear hcz28_3
          try clear hcz28_4
          try clear hcz28_5
          try clear hcz28_6
          try clear hcz28_7
          try clear hcz30_0
          try clear hcz30_1
          try clear hcz30_2
          try clear hcz30_3
          try clear hcz30_4
          try clear hcz30_5
          try clear hcz30_6
          try clear hcz30_7
          try clear hcz9_0
          try clear hcz9_1
          try clear hcz9_2
          try clear hcz9_3
          try clear hcz9_4
          try clear hcz9_5
          try clear hcz9_6
          try clear hcz9_7
          try clear hfz20_0
          try clear hfz20_1
          try clear hfz20_2
          try clear hfz20_3
          try clear hfz20_4
          try clear hfz20_5
          try clear hfz20_6
          try clear hfz20_7
          try clear hfz27_0
          try clear hfz27_1
          try clear hfz28_0
          try clear hfz28_1
          try clear hfz28_2
          try clear hfz28_3
          try clear hfz28_4
          try clear hfz28_5
          try clear hfz28_6
          try clear hfz28_7
          try clear hfz30_0
          try clear hfz30_1
          try clear hfz30_2
          try clear hfz30_3
          try clear hfz30_4
          try clear hfz30_5
          try clear hfz30_6
          try clear hfz30_7
          try clear hfz9_0
          try clear hfz9_1
          try clear hfz9_2
          try clear hfz9_3
          try clear hfz9_4
          try clear hfz9_5
          try clear hfz9_6
          try clear hfz9_7
          try clear p2
          obtain ⟨kq, x50_18, rfl, HA, HJ18, HO_9, HO_102006, BK101, BK118, HB⟩ := hcut
          cases kq with
          | zero => exact absurd HA.out (by simp [malthouselaw11_ProgWants.j1])
          | succ kj18 =>
            have H := HA.out
            clear HA
            simp only [malthouselaw11_ProgWants.j1] at H
            by_cases c34 : x50_18 = true
            · subst c34
              have H1 : (if t120 = 0 then (if t117 = 0 then (if (t113.length : Int) = 1 then (if 0 < (t113.length : Int) then (if ((rd_T72 t113 0).f0) = a0_0 then (if ((rd_T72 t113 0).f1).toList = a0_1.toList then (if ((rd_T72 t113 0).f2).toList = a0_2.toList then (some (((rd_T72 t113 0).f3) == t119)) else (some false)) else (some false)) else (some false)) else (none)) else (some false)) else (some false)) else (if t117 = t120 then (some ((t113.length : Int) == 0)) else (some false))) = some r := by rw [if_pos rfl] at H; exact H
              clear H
              have H := H1
              clear H1
              by_cases c35 : t120 = 0
              · rw [if_pos c35] at H
                have c35b0 : (t120 == 0) = true := beq_iff_eq.mpr c35
                have c35b1 : (t120 != 0) = false := bne_eq_false_iff_eq.mpr c35
                clear c35
                by_cases c36 : t117 = 0
                · rw [if_pos c36] at H
                  have c36b0 : (t117 == 0) = true := beq_iff_eq.mpr c36
                  have c36b1 : (t117 != 0) = false := bne_eq_false_iff_eq.mpr c36
                  clear c36
                  by_cases c37 : (t113.length : Int) = 1
                  · rw [if_pos c37] at H
                    have c37b0 : ((t113.length : Int) == 1) = true := beq_iff_eq.mpr c37
                    have c37b1 : ((t113.length : Int) != 1) = false := bne_eq_false_iff_eq.mpr c37
                    clear c37
                    by_cases c38 : 0 < (t113.length : Int)
                    · rw [if_pos c38] at H
                      have c38b0 : decide (0 < (t113.length : Int)) = true := decide_eq_true c38
                      have c38b1 : decide (0 < t113.length) = true := decide_eq_true (by omega)
                      clear c38
                      by_cases c39 : ((rd_T72 t113 0).f0) = a0_0
                      · rw [if_pos c39] at H
                        have c39b0 : (((rd_T72 t113 0).f0) == a0_0) = true := beq_iff_eq.mpr c39
                        have c39b1 : (((rd_T72 t113 0).f0) != a0_0) = false := bne_eq_false_iff_eq.mpr c39
                        clear c39
                        by_cases c40 : ((rd_T72 t113 0).f1).toList = a0_1.toList
                        · rw [if_pos c40] at H
                          have c40b0 : (((rd_T72 t113 0).f1).toList == a0_1.toList) = true := beq_iff_eq.mpr c40
                          have c40b1 : (((rd_T72 t113 0).f1).toList != a0_1.toList) = false := bne_eq_false_iff_eq.mpr c40
                          clear c40
                          by_cases c41 : ((rd_T72 t113 0).f2).toList = a0_2.toList
                          · rw [if_pos c41] at H
                            have c41b0 : (((rd_T72 t113 0).f2).toList == a0_2.toList) = true := beq_iff_eq.mpr c41
                            have c41b1 : (((rd_T72 t113 0).f2).toList != a0_2.toList) = false := bne_eq_false_iff_eq.mpr c41
                            clear c41
                            obtain rfl := Option.some.inj H
                            obtain ⟨Ao42, co42, eo42⟩ := Kd.R_slice HO_9.out
                            subst eo42
                            have p121 : 0 ≤ (0 : Int) := (by omega)
                            have q121 : 0 < (t113.length : Int) := of_decide_eq_true (by first | (with_reducible assumption) | assumption)
                            obtain ⟨ad121, e121, hx121_0, hx121_1, hx121_2, hx121_3⟩ := at_T72 (Kd.R_reads' HO_9.out).2.2 0 p121 q121
                            cases e121
                            have qi121 : (0 < t113.length) = True := eq_true (by omega)
                            (try rw [show ((0 : Int)).toNat = 0 from rfl] at hx121_0)
                            (try rw [show 0 * 4 = 0 from rfl] at hx121_0)
                            (try rw [Addr.add_zero'] at hx121_0)
                            (try rw [show ((0 : Int)).toNat = 0 from rfl] at hx121_1)
                            (try rw [show 0 * 4 = 0 from rfl] at hx121_1)
                            (try rw [Addr.add_zero'] at hx121_1)
                            (try rw [show ((0 : Int)).toNat = 0 from rfl] at hx121_2)
                            (try rw [show 0 * 4 = 0 from rfl] at hx121_2)
                            (try rw [Addr.add_zero'] at hx121_2)
                            (try rw [show ((0 : Int)).toNat = 0 from rfl] at hx121_3)
                            (try rw [show 0 * 4 = 0 from rfl] at hx121_3)
                            (try rw [Addr.add_zero'] at hx121_3)
                            replace p121 := eq_true p121
                            replace q121 := eq_true q121
                            have hnb43 := NB101_118.out
                            have hnc43 := NB118_101.out
                            have hcz44_0 : wc.cell? ⟨gb101, 0, none⟩ = some (.int .i64 a0_0) := (blk_cell BK101.out 0).trans rfl
                            have hcz44_1 : wc.cell? ⟨gb101, 1, none⟩ = some (.string a0_1) := (blk_cell BK101.out 1).trans rfl
                            have hcz44_2 : wc.cell? ⟨gb101, 2, none⟩ = some (.string a0_2) := (blk_cell BK101.out 2).trans rfl
                            have hcz44_3 : wc.cell? ⟨gb101, 3, none⟩ = some (.int .i64 a0_3) := (blk_cell BK101.out 3).trans rfl
                            have hcz44_4 : wc.cell? ⟨gb101, 4, none⟩ = some (.int .i64 a0_4) := (blk_cell BK101.out 4).trans rfl
                            have hcz44_5 : wc.cell? ⟨gb101, 5, none⟩ = some (.string a0_5) := (blk_cell BK101.out 5).trans rfl
                            have hcz44_6 : wc.cell? ⟨gb101, 6, none⟩ = some (.slice A0_6 l0_6.length c0_6) := (blk_cell BK101.out 6).trans rfl
                            have hcz44_7 : wc.cell? ⟨gb101, 7, none⟩ = some (.int .i64 a0_7) := (blk_cell BK101.out 7).trans rfl
                            have hfz44_0 := blk_frozen BK101.out 0
                            have hfz44_1 := blk_frozen BK101.out 1
                            have hfz44_2 := blk_frozen BK101.out 2
                            have hfz44_3 := blk_frozen BK101.out 3
                            have hfz44_4 := blk_frozen BK101.out 4
                            have hfz44_5 := blk_frozen BK101.out 5
                            have hfz44_6 := blk_frozen BK101.out 6
                            have hfz44_7 := blk_frozen BK101.out 7
                            have p122 : 0 ≤ (0 : Int) := (by omega)
                            have q122 : 0 < (t113.length : Int) := of_decide_eq_true (by first | (with_reducible assumption) | assumption)
                            obtain ⟨ad122, e122, hx122_0, hx122_1, hx122_2, hx122_3⟩ := at_T72 (Kd.R_reads' HO_9.out).2.2 0 p122 q122
                            obtain rfl : ad121 = ad122 := (by injection e122)
                            have qi122 : (0 < t113.length) = True := eq_true (by omega)
                            (try rw [show ((0 : Int)).toNat = 0 from rfl] at hx122_0)
                            (try rw [show 0 * 4 = 0 from rfl] at hx122_0)
                            (try rw [Addr.add_zero'] at hx122_0)
                            (try rw [show ((0 : Int)).toNat = 0 from rfl] at hx122_1)
                            (try rw [show 0 * 4 = 0 from rfl] at hx122_1)
                            (try rw [Addr.add_zero'] at hx122_1)
                            (try rw [show ((0 : Int)).toNat = 0 from rfl] at hx122_2)
                            (try rw [show 0 * 4 = 0 from rfl] at hx122_2)
                            (try rw [Addr.add_zero'] at hx122_2)
                            (try rw [show ((0 : Int)).toNat = 0 from rfl] at hx122_3)
                            (try rw [show 0 * 4 = 0 from rfl] at hx122_3)
                            (try rw [Addr.add_zero'] at hx122_3)
                            replace p122 := eq_true p122
                            replace q122 := eq_true q122
                            have p123 : 0 ≤ (0 : Int) := (by omega)
                            have q123 : 0 < (t113.length : Int) := of_decide_eq_true (by first | (with_reducible assumption) | assumption)
                            obtain ⟨ad123, e123, hx123_0, hx123_1, hx123_2, hx123_3⟩ := at_T72 (Kd.R_reads' HO_9.out).2.2 0 p123 q123
                            obtain rfl : ad121 = ad123 := (by injection e123)
                            have qi123 : (0 < t113.length) = True := eq_true (by omega)
                            (try rw [show ((0 : Int)).toNat = 0 from rfl] at hx123_0)
                            (try rw [show 0 * 4 = 0 from rfl] at hx123_0)
                            (try rw [Addr.add_zero'] at hx123_0)
                            (try rw [show ((0 : Int)).toNat = 0 from rfl] at hx123_1)
                            (try rw [show 0 * 4 = 0 from rfl] at hx123_1)
                            (try rw [Addr.add_zero'] at hx123_1)
                            (try rw [show ((0 : Int)).toNat = 0 from rfl] at hx123_2)
                            (try rw [show 0 * 4 = 0 from rfl] at hx123_2)
                            (try rw [Addr.add_zero'] at hx123_2)
                            (try rw [show ((0 : Int)).toNat = 0 from rfl] at hx123_3)
                            (try rw [show 0 * 4 = 0 from rfl] at hx123_3)
                            (try rw [Addr.add_zero'] at hx123_3)
                            replace p123 := eq_true p123
                            replace q123 := eq_true q123
                            have p124 : 0 ≤ (0 : Int) := (by omega)
                            have q124 : 0 < (t113.length : Int) := of_decide_eq_true (by first | (with_reducible assumption) | assumption)
                            obtain ⟨ad124, e124, hx124_0, hx124_1, hx124_2, hx124_3⟩ := at_T72 (Kd.R_reads' HO_9.out).2.2 0 p124 q124
                            obtain rfl : ad121 = ad124 := (by injection e124)
                            have qi124 : (0 < t113.length) = True := eq_true (by omega)
                            (try rw [show ((0 : Int)).toNat = 0 from rfl] at hx124_0)
                            (try rw [show 0 * 4 = 0 from rfl] at hx124_0)
                            (try rw [Addr.add_zero'] at hx124_0)
                            (try rw [show ((0 : Int)).toNat = 0 from rfl] at hx124_1)
                            (try rw [show 0 * 4 = 0 from rfl] at hx124_1)
                            (try rw [Addr.add_zero'] at hx124_1)
                            (try rw [show ((0 : Int)).toNat = 0 from rfl] at hx124_2)
                            (try rw [show 0 * 4 = 0 from rfl] at hx124_2)
                            (try rw [Addr.add_zero'] at hx124_2)
                            (try rw [show ((0 : Int)).toNat = 0 from rfl] at hx124_3)
                            (try rw [show 0 * 4 = 0 from rfl] at hx124_3)
                            (try rw [Addr.add_zero'] at hx124_3)
                            replace p124 := eq_true p124
                            replace q124 := eq_true q124
                            go_wp2
                            repeat (go_quiet (fail); try go_wp2)
                            go_ret
                            exact ⟨by first | rfl | (simp [errW_none, errW_some] <;> rfl) | (simp [*, errW_none, errW_some] <;> rfl), by repeat (first | (with_reducible first | exact HB.out | apply below_alloc | apply pw_below_drewN | apply below_drew1 | refine below_set ?_ GE101.out | refine below_set ?_ GE118.out) | exact HB.out)⟩
                          · rw [if_neg c41] at H
                            have c41b0 : (((rd_T72 t113 0).f2).toList == a0_2.toList) = false := beq_eq_false_iff_ne.mpr c41
                            have c41b1 : (((rd_T72 t113 0).f2).toList != a0_2.toList) = true := bne_iff_ne.mpr c41
                            first
                            | exact absurd ((Option.some.inj H).trans HRT.out) (by decide)
                            | (obtain rfl := Option.some.inj H
                               obtain ⟨Ao45, co45, eo45⟩ := Kd.R_slice HO_9.out
                               subst eo45
                               have p121 : 0 ≤ (0 : Int) := (by omega)
                               have q121 : 0 < (t113.length : Int) := of_decide_eq_true (by first | (with_reducible assumption) | assumption)
                               obtain ⟨ad121, e121, hx121_0, hx121_1, hx121_2, hx121_3⟩ := at_T72 (Kd.R_reads' HO_9.out).2.2 0 p121 q121
                               cases e121
                               have qi121 : (0 < t113.length) = True := eq_true (by omega)
                               (try rw [show ((0 : Int)).toNat = 0 from rfl] at hx121_0)
                               (try rw [show 0 * 4 = 0 from rfl] at hx121_0)
                               (try rw [Addr.add_zero'] at hx121_0)
                               (try rw [show ((0 : Int)).toNat = 0 from rfl] at hx121_1)
                               (try rw [show 0 * 4 = 0 from rfl] at hx121_1)
                               (try rw [Addr.add_zero'] at hx121_1)
                               (try rw [show ((0 : Int)).toNat = 0 from rfl] at hx121_2)
                               (try rw [show 0 * 4 = 0 from rfl] at hx121_2)
                               (try rw [Addr.add_zero'] at hx121_2)
                               (try rw [show ((0 : Int)).toNat = 0 from rfl] at hx121_3)
                               (try rw [show 0 * 4 = 0 from rfl] at hx121_3)
                               (try rw [Addr.add_zero'] at hx121_3)
                               replace p121 := eq_true p121
                               replace q121 := eq_true q121
                               have hnb46 := NB101_118.out
                               have hnc46 := NB118_101.out
                               have hcz47_0 : wc.cell? ⟨gb101, 0, none⟩ = some (.int .i64 a0_0) := (blk_cell BK101.out 0).trans rfl
                               have hcz47_1 : wc.cell? ⟨gb101, 1, none⟩ = some (.string a0_1) := (blk_cell BK101.out 1).trans rfl
                               have hcz47_2 : wc.cell? ⟨gb101, 2, none⟩ = some (.string a0_2) := (blk_cell BK101.out 2).trans rfl
                               have hcz47_3 : wc.cell? ⟨gb101, 3, none⟩ = some (.int .i64 a0_3) := (blk_cell BK101.out 3).trans rfl
                               have hcz47_4 : wc.cell? ⟨gb101, 4, none⟩ = some (.int .i64 a0_4) := (blk_cell BK101.out 4).trans rfl
                               have hcz47_5 : wc.cell? ⟨gb101, 5, none⟩ = some (.string a0_5) := (blk_cell BK101.out 5).trans rfl
                               have hcz47_6 : wc.cell? ⟨gb101, 6, none⟩ = some (.slice A0_6 l0_6.length c0_6) := (blk_cell BK101.out 6).trans rfl
                               have hcz47_7 : wc.cell? ⟨gb101, 7, none⟩ = some (.int .i64 a0_7) := (blk_cell BK101.out 7).trans rfl
                               have hfz47_0 := blk_frozen BK101.out 0
                               have hfz47_1 := blk_frozen BK101.out 1
                               have hfz47_2 := blk_frozen BK101.out 2
                               have hfz47_3 := blk_frozen BK101.out 3
                               have hfz47_4 := blk_frozen BK101.out 4
                               have hfz47_5 := blk_frozen BK101.out 5
                               have hfz47_6 := blk_frozen BK101.out 6
                               have hfz47_7 := blk_frozen BK101.out 7
                               have p122 : 0 ≤ (0 : Int) := (by omega)
                               have q122 : 0 < (t113.length : Int) := of_decide_eq_true (by first | (with_reducible assumption) | assumption)
                               obtain ⟨ad122, e122, hx122_0, hx122_1, hx122_2, hx122_3⟩ := at_T72 (Kd.R_reads' HO_9.out).2.2 0 p122 q122
                               obtain rfl : ad121 = ad122 := (by injection e122)
                               have qi122 : (0 < t113.length) = True := eq_true (by omega)
                               (try rw [show ((0 : Int)).toNat = 0 from rfl] at hx122_0)
                               (try rw [show 0 * 4 = 0 from rfl] at hx122_0)
                               (try rw [Addr.add_zero'] at hx122_0)
                               (try rw [show ((0 : Int)).toNat = 0 from rfl] at hx122_1)
                               (try rw [show 0 * 4 = 0 from rfl] at hx122_1)
                               (try rw [Addr.add_zero'] at hx122_1)
                               (try rw [show ((0 : Int)).toNat = 0 from rfl] at hx122_2)
                               (try rw [show 0 * 4 = 0 from rfl] at hx122_2)
                               (try rw [Addr.add_zero'] at hx122_2)
                               (try rw [show ((0 : Int)).toNat = 0 from rfl] at hx122_3)
                               (try rw [show 0 * 4 = 0 from rfl] at hx122_3)
                               (try rw [Addr.add_zero'] at hx122_3)
                               replace p122 := eq_true p122
                               replace q122 := eq_true q122
                               have p123 : 0 ≤ (0 : Int) := (by omega)
                               have q123 : 0 < (t113.length : Int) := of_decide_eq_true (by first | (with_reducible assumption) | assumption)
                               obtain ⟨ad123, e123, hx123_0, hx123_1, hx123_2, hx123_3⟩ := at_T72 (Kd.R_reads' HO_9.out).2.2 0 p123 q123
                               obtain rfl : ad121 = ad123 := (by injection e123)
                               have qi123 : (0 < t113.length) = True := eq_true (by omega)
                               (try rw [show ((0 : Int)).toNat = 0 from rfl] at hx123_0)
                               (try rw [show 0 * 4 = 0 from rfl] at hx123_0)
                               (try rw [Addr.add_zero'] at hx123_0)
                               (try rw [show ((0 : Int)).toNat = 0 from rfl] at hx123_1)
                               (try rw [show 0 * 4 = 0 from rfl] at hx123_1)
                               (try rw [Addr.add_zero'] at hx123_1)
                               (try rw [show ((0 : Int)).toNat = 0 from rfl] at hx123_2)
                               (try rw [show 0 * 4 = 0 from rfl] at hx123_2)
                               (try rw [Addr.add_zero'] at hx123_2)
                               (try rw [show ((0 : Int)).toNat = 0 from rfl] at hx123_3)
                               (try rw [show 0 * 4 = 0 from rfl] at hx123_3)
                               (try rw [Addr.add_zero'] at hx123_3)
                               replace p123 := eq_true p123
                               replace q123 := eq_true q123
                               go_wp2
                               repeat (go_quiet (fail); try go_wp2)
                               go_ret
                               exact ⟨by first | rfl | (simp [errW_none, errW_some] <;> rfl) | (simp [*, errW_none, errW_some] <;> rfl), by repeat (first | (with_reducible first | exact HB.out | apply below_alloc | apply pw_below_drewN | apply below_drew1 | refine below_set ?_ GE101.out | refine below_set ?_ GE118.out) | exact HB.out)⟩)
                        · rw [if_neg c40] at H
                          have c40b0 : (((rd_T72 t113 0).f1).toList == a0_1.toList) = false := beq_eq_false_iff_ne.mpr c40
                          have c40b1 : (((rd_T72 t113 0).f1).toList != a0_1.toList) = true := bne_iff_ne.mpr c40
                          first
                          | exact absurd ((Option.some.inj H).trans HRT.out) (by decide)
                          | (obtain rfl := Option.some.inj H
                             obtain ⟨Ao48, co48, eo48⟩ := Kd.R_slice HO_9.out
                             subst eo48
                             have p121 : 0 ≤ (0 : Int) := (by omega)
                             have q121 : 0 < (t113.length : Int) := of_decide_eq_true (by first | (with_reducible assumption) | assumption)
                             obtain ⟨ad121, e121, hx121_0, hx121_1, hx121_2, hx121_3⟩ := at_T72 (Kd.R_reads' HO_9.out).2.2 0 p121 q121
                             cases e121
                             have qi121 : (0 < t113.length) = True := eq_true (by omega)
                             (try rw [show ((0 : Int)).toNat = 0 from rfl] at hx121_0)
                             (try rw [show 0 * 4 = 0 from rfl] at hx121_0)
                             (try rw [Addr.add_zero'] at hx121_0)
                             (try rw [show ((0 : Int)).toNat = 0 from rfl] at hx121_1)
                             (try rw [show 0 * 4 = 0 from rfl] at hx121_1)
                             (try rw [Addr.add_zero'] at hx121_1)
                             (try rw [show ((0 : Int)).toNat = 0 from rfl] at hx121_2)
                             (try rw [show 0 * 4 = 0 from rfl] at hx121_2)
                             (try rw [Addr.add_zero'] at hx121_2)
                             (try rw [show ((0 : Int)).toNat = 0 from rfl] at hx121_3)
                             (try rw [show 0 * 4 = 0 from rfl] at hx121_3)
                             (try rw [Addr.add_zero'] at hx121_3)
                             replace p121 := eq_true p121
                             replace q121 := eq_true q121
                             have hnb49 := NB101_118.out
                             have hnc49 := NB118_101.out
                             have hcz50_0 : wc.cell? ⟨gb101, 0, none⟩ = some (.int .i64 a0_0) := (blk_cell BK101.out 0).trans rfl
                             have hcz50_1 : wc.cell? ⟨gb101, 1, none⟩ = some (.string a0_1) := (blk_cell BK101.out 1).trans rfl
                             have hcz50_2 : wc.cell? ⟨gb101, 2, none⟩ = some (.string a0_2) := (blk_cell BK101.out 2).trans rfl
                             have hcz50_3 : wc.cell? ⟨gb101, 3, none⟩ = some (.int .i64 a0_3) := (blk_cell BK101.out 3).trans rfl
                             have hcz50_4 : wc.cell? ⟨gb101, 4, none⟩ = some (.int .i64 a0_4) := (blk_cell BK101.out 4).trans rfl
                             have hcz50_5 : wc.cell? ⟨gb101, 5, none⟩ = some (.string a0_5) := (blk_cell BK101.out 5).trans rfl
                             have hcz50_6 : wc.cell? ⟨gb101, 6, none⟩ = some (.slice A0_6 l0_6.length c0_6) := (blk_cell BK101.out 6).trans rfl
                             have hcz50_7 : wc.cell? ⟨gb101, 7, none⟩ = some (.int .i64 a0_7) := (blk_cell BK101.out 7).trans rfl
                             have hfz50_0 := blk_frozen BK101.out 0
                             have hfz50_1 := blk_frozen BK101.out 1
                             have hfz50_2 := blk_frozen BK101.out 2
                             have hfz50_3 := blk_frozen BK101.out 3
                             have hfz50_4 := blk_frozen BK101.out 4
                             have hfz50_5 := blk_frozen BK101.out 5
                             have hfz50_6 := blk_frozen BK101.out 6
                             have hfz50_7 := blk_frozen BK101.out 7
                             have p122 : 0 ≤ (0 : Int) := (by omega)
                             have q122 : 0 < (t113.length : Int) := of_decide_eq_true (by first | (with_reducible assumption) | assumption)
                             obtain ⟨ad122, e122, hx122_0, hx122_1, hx122_2, hx122_3⟩ := at_T72 (Kd.R_reads' HO_9.out).2.2 0 p122 q122
                             obtain rfl : ad121 = ad122 := (by injection e122)
                             have qi122 : (0 < t113.length) = True := eq_true (by omega)
                             (try rw [show ((0 : Int)).toNat = 0 from rfl] at hx122_0)
                             (try rw [show 0 * 4 = 0 from rfl] at hx122_0)
                             (try rw [Addr.add_zero'] at hx122_0)
                             (try rw [show ((0 : Int)).toNat = 0 from rfl] at hx122_1)
                             (try rw [show 0 * 4 = 0 from rfl] at hx122_1)
                             (try rw [Addr.add_zero'] at hx122_1)
                             (try rw [show ((0 : Int)).toNat = 0 from rfl] at hx122_2)
                             (try rw [show 0 * 4 = 0 from rfl] at hx122_2)
                             (try rw [Addr.add_zero'] at hx122_2)
                             (try rw [show ((0 : Int)).toNat = 0 from rfl] at hx122_3)
                             (try rw [show 0 * 4 = 0 from rfl] at hx122_3)
                             (try rw [Addr.add_zero'] at hx122_3)
                             replace p122 := eq_true p122
                             replace q122 := eq_true q122
                             go_wp2
                             repeat (go_quiet (fail); try go_wp2)
                             go_ret
                             exact ⟨by first | rfl | (simp [errW_none, errW_some] <;> rfl) | (simp [*, errW_none, errW_some] <;> rfl), by repeat (first | (with_reducible first | exact HB.out | apply below_alloc | apply pw_below_drewN | apply below_drew1 | refine below_set ?_ GE101.out | refine below_set ?_ GE118.out) | exact HB.out)⟩)
                      · rw [if_neg c39] at H
                        have c39b0 : (((rd_T72 t113 0).f0) == a0_0) = false := beq_eq_false_iff_ne.mpr c39
                        have c39b1 : (((rd_T72 t113 0).f0) != a0_0) = true := bne_iff_ne.mpr c39
                        first
                        | exact absurd ((Option.some.inj H).trans HRT.out) (by decide)
                        | (obtain rfl := Option.some.inj H
                           obtain ⟨Ao51, co51, eo51⟩ := Kd.R_slice HO_9.out
                           subst eo51
                           have p121 : 0 ≤ (0 : Int) := (by omega)
                           have q121 : 0 < (t113.length : Int) := of_decide_eq_true (by first | (with_reducible assumption) | assumption)
                           obtain ⟨ad121, e121, hx121_0, hx121_1, hx121_2, hx121_3⟩ := at_T72 (Kd.R_reads' HO_9.out).2.2 0 p121 q121
                           cases e121
                           have qi121 : (0 < t113.length) = True := eq_true (by omega)
                           (try rw [show ((0 : Int)).toNat = 0 from rfl] at hx121_0)
                           (try rw [show 0 * 4 = 0 from rfl] at hx121_0)
                           (try rw [Addr.add_zero'] at hx121_0)
                           (try rw [show ((0 : Int)).toNat = 0 from rfl] at hx121_1)
                           (try rw [show 0 * 4 = 0 from rfl] at hx121_1)
                           (try rw [Addr.add_zero'] at hx121_1)
                           (try rw [show ((0 : Int)).toNat = 0 from rfl] at hx121_2)
                           (try rw [show 0 * 4 = 0 from rfl] at hx121_2)
                           (try rw [Addr.add_zero'] at hx121_2)
                           (try rw [show ((0 : Int)).toNat = 0 from rfl] at hx121_3)
                           (try rw [show 0 * 4 = 0 from rfl] at hx121_3)
                           (try rw [Addr.add_zero'] at hx121_3)
                           replace p121 := eq_true p121
                           replace q121 := eq_true q121
                           have hnb52 := NB101_118.out
                           have hnc52 := NB118_101.out
                           have hcz53_0 : wc.cell? ⟨gb101, 0, none⟩ = some (.int .i64 a0_0) := (blk_cell BK101.out 0).trans rfl
                           have hcz53_1 : wc.cell? ⟨gb101, 1, none⟩ = some (.string a0_1) := (blk_cell BK101.out 1).trans rfl
                           have hcz53_2 : wc.cell? ⟨gb101, 2, none⟩ = some (.string a0_2) := (blk_cell BK101.out 2).trans rfl
                           have hcz53_3 : wc.cell? ⟨gb101, 3, none⟩ = some (.int .i64 a0_3) := (blk_cell BK101.out 3).trans rfl
                           have hcz53_4 : wc.cell? ⟨gb101, 4, none⟩ = some (.int .i64 a0_4) := (blk_cell BK101.out 4).trans rfl
                           have hcz53_5 : wc.cell? ⟨gb101, 5, none⟩ = some (.string a0_5) := (blk_cell BK101.out 5).trans rfl
                           have hcz53_6 : wc.cell? ⟨gb101, 6, none⟩ = some (.slice A0_6 l0_6.length c0_6) := (blk_cell BK101.out 6).trans rfl
                           have hcz53_7 : wc.cell? ⟨gb101, 7, none⟩ = some (.int .i64 a0_7) := (blk_cell BK101.out 7).trans rfl
                           have hfz53_0 := blk_frozen BK101.out 0
                           have hfz53_1 := blk_frozen BK101.out 1
                           have hfz53_2 := blk_frozen BK101.out 2
                           have hfz53_3 := blk_frozen BK101.out 3
                           have hfz53_4 := blk_frozen BK101.out 4
                           have hfz53_5 := blk_frozen BK101.out 5
                           have hfz53_6 := blk_frozen BK101.out 6
                           have hfz53_7 := blk_frozen BK101.out 7
                           go_wp2
                           repeat (go_quiet (fail); try go_wp2)
                           go_ret
                           exact ⟨by first | rfl | (simp [errW_none, errW_some] <;> rfl) | (simp [*, errW_none, errW_some] <;> rfl), by repeat (first | (with_reducible first | exact HB.out | apply below_alloc | apply pw_below_drewN | apply below_drew1 | refine below_set ?_ GE101.out | refine below_set ?_ GE118.out) | exact HB.out)⟩)
                    · rw [if_neg c38] at H
                      exact absurd H (by simp)
                  · rw [if_neg c37] at H
                    have c37b0 : ((t113.length : Int) == 1) = false := beq_eq_false_iff_ne.mpr c37
                    have c37b1 : ((t113.length : Int) != 1) = true := bne_iff_ne.mpr c37
                    first
                    | exact absurd ((Option.some.inj H).trans HRT.out) (by decide)
                    | (obtain rfl := Option.some.inj H
                       obtain ⟨Ao54, co54, eo54⟩ := Kd.R_slice HO_9.out
                       subst eo54
                       go_wp2
                       repeat (go_quiet (fail); try go_wp2)
                       go_ret
                       exact ⟨by first | rfl | (simp [errW_none, errW_some] <;> rfl) | (simp [*, errW_none, errW_some] <;> rfl), by repeat (first | (with_reducible first | exact HB.out | apply below_alloc | apply pw_below_drewN | apply below_drew1 | refine below_set ?_ GE101.out | refine below_set ?_ GE118.out) | exact HB.out)⟩)
                · rw [if_neg c36] at H
                  have c36b0 : (t117 == 0) = false := beq_eq_false_iff_ne.mpr c36
                  have c36b1 : (t117 != 0) = true := bne_iff_ne.mpr c36
                  first
                  | exact absurd ((Option.some.inj H).trans HRT.out) (by decide)
                  | (obtain rfl := Option.some.inj H
                     go_wp2
                     repeat (go_quiet (fail); try go_wp2)
                     go_ret
                     exact ⟨by first | rfl | (simp [errW_none, errW_some] <;> rfl) | (simp [*, errW_none, errW_some] <;> rfl), by repeat (first | (with_reducible first | exact HB.out | apply below_alloc | apply pw_below_drewN | apply below_drew1 | refine below_set ?_ GE101.out | refine below_set ?_ GE118.out) | exact HB.out)⟩)
              · rw [if_neg c35] at H
                have c35b0 : (t120 == 0) = false := beq_eq_false_iff_ne.mpr c35
                have c35b1 : (t120 != 0) = true := bne_iff_ne.mpr c35
                by_cases c55 : t117 = t120
                · rw [if_pos c55] at H
                  have c55b0 : (t117 == t120) = true := beq_iff_eq.mpr c55
                  have c55b1 : (t117 != t120) = false := bne_eq_false_iff_eq.mpr c55
                  clear c55
                  obtain rfl := Option.some.inj H
                  obtain ⟨Ao56, co56, eo56⟩ := Kd.R_slice HO_9.out
                  subst eo56
                  go_wp2
                  repeat (go_quiet (fail); try go_wp2)
                  go_ret
                  exact ⟨by first | rfl | (simp [errW_none, errW_some] <;> rfl) | (simp [*, errW_none, errW_some] <;> rfl), by repeat (first | (with_reducible first | exact HB.out | apply below_alloc | apply pw_below_drewN | apply below_drew1 | refine below_set ?_ GE101.out | refine below_set ?_ GE118.out) | exact HB.out)⟩
                · rw [if_neg c55] at H
                  have c55b0 : (t117 == t120) = false := beq_eq_false_iff_ne.mpr c55
                  have c55b1 : (t117 != t120) = true := bne_iff_ne.mpr c55
                  first
                  | exact absurd ((Option.some.inj H).trans HRT.out) (by decide)
                  | (obtain rfl := Option.some.inj H
                     go_wp2
                     repeat (go_quiet (fail); try go_wp2)
                     go_ret
                     exact ⟨by first | rfl | (simp [errW_none, errW_some] <;> rfl) | (simp [*, errW_none, errW_some] <;> rfl), by repeat (first | (with_reducible first | exact HB.out | apply below_alloc | apply pw_below_drewN | apply below_drew1 | refine below_set ?_ GE101.out | refine below_set ?_ GE118.out) | exact HB.out)⟩)
            · replace c34 := Bool.eq_false_iff.mpr c34
              subst c34
              have H1 : (if a0_0 = 7 then (if t117 = 0 then (if (t113.length : Int) = 1 then (if 0 < (t113.length : Int) then (if ((rd_T72 t113 0).f0) = a0_0 then (if ((rd_T72 t113 0).f1).toList = a0_1.toList then (some (((rd_T72 t113 0).f3) == 0)) else (some false)) else (some false)) else (none)) else (some false)) else (some false)) else (some ((t113.length : Int) == 0))) = some r := by rw [if_neg (show ¬ (false = true) by decide)] at H; exact H
              clear H
              have H := H1
              clear H1
              by_cases c57 : a0_0 = 7
              · rw [if_pos c57] at H
                have c57b0 : (a0_0 == 7) = true := beq_iff_eq.mpr c57
                have c57b1 : (a0_0 != 7) = false := bne_eq_false_iff_eq.mpr c57
                clear c57
                by_cases c58 : t117 = 0
                · rw [if_pos c58] at H
                  have c58b0 : (t117 == 0) = true := beq_iff_eq.mpr c58
                  have c58b1 : (t117 != 0) = false := bne_eq_false_iff_eq.mpr c58
                  clear c58
                  by_cases c59 : (t113.length : Int) = 1
                  · rw [if_pos c59] at H
                    have c59b0 : ((t113.length : Int) == 1) = true := beq_iff_eq.mpr c59
                    have c59b1 : ((t113.length : Int) != 1) = false := bne_eq_false_iff_eq.mpr c59
                    clear c59
                    by_cases c60 : 0 < (t113.length : Int)
                    · rw [if_pos c60] at H
                      have c60b0 : decide (0 < (t113.length : Int)) = true := decide_eq_true c60
                      have c60b1 : decide (0 < t113.length) = true := decide_eq_true (by omega)
                      clear c60
                      by_cases c61 : ((rd_T72 t113 0).f0) = a0_0
                      · rw [if_pos c61] at H
                        have c61b0 : (((rd_T72 t113 0).f0) == a0_0) = true := beq_iff_eq.mpr c61
                        have c61b1 : (((rd_T72 t113 0).f0) != a0_0) = false := bne_eq_false_iff_eq.mpr c61
                        clear c61
                        by_cases c62 : ((rd_T72 t113 0).f1).toList = a0_1.toList
                        · rw [if_pos c62] at H
                          have c62b0 : (((rd_T72 t113 0).f1).toList == a0_1.toList) = true := beq_iff_eq.mpr c62
                          have c62b1 : (((rd_T72 t113 0).f1).toList != a0_1.toList) = false := bne_eq_false_iff_eq.mpr c62
                          clear c62
                          obtain rfl := Option.some.inj H
                          obtain ⟨Ao63, co63, eo63⟩ := Kd.R_slice HO_9.out
                          subst eo63
                          have p125 : 0 ≤ (0 : Int) := (by omega)
                          have q125 : 0 < (t113.length : Int) := of_decide_eq_true (by first | (with_reducible assumption) | assumption)
                          obtain ⟨ad125, e125, hx125_0, hx125_1, hx125_2, hx125_3⟩ := at_T72 (Kd.R_reads' HO_9.out).2.2 0 p125 q125
                          cases e125
                          have qi125 : (0 < t113.length) = True := eq_true (by omega)
                          (try rw [show ((0 : Int)).toNat = 0 from rfl] at hx125_0)
                          (try rw [show 0 * 4 = 0 from rfl] at hx125_0)
                          (try rw [Addr.add_zero'] at hx125_0)
                          (try rw [show ((0 : Int)).toNat = 0 from rfl] at hx125_1)
                          (try rw [show 0 * 4 = 0 from rfl] at hx125_1)
                          (try rw [Addr.add_zero'] at hx125_1)
                          (try rw [show ((0 : Int)).toNat = 0 from rfl] at hx125_2)
                          (try rw [show 0 * 4 = 0 from rfl] at hx125_2)
                          (try rw [Addr.add_zero'] at hx125_2)
                          (try rw [show ((0 : Int)).toNat = 0 from rfl] at hx125_3)
                          (try rw [show 0 * 4 = 0 from rfl] at hx125_3)
                          (try rw [Addr.add_zero'] at hx125_3)
                          replace p125 := eq_true p125
                          replace q125 := eq_true q125
                          have hnb64 := NB101_118.out
                          have hnc64 := NB118_101.out
                          have hcz65_0 : wc.cell? ⟨gb101, 0, none⟩ = some (.int .i64 a0_0) := (blk_cell BK101.out 0).trans rfl
                          have hcz65_1 : wc.cell? ⟨gb101, 1, none⟩ = some (.string a0_1) := (blk_cell BK101.out 1).trans rfl
                          have hcz65_2 : wc.cell? ⟨gb101, 2, none⟩ = some (.string a0_2) := (blk_cell BK101.out 2).trans rfl
                          have hcz65_3 : wc.cell? ⟨gb101, 3, none⟩ = some (.int .i64 a0_3) := (blk_cell BK101.out 3).trans rfl
                          have hcz65_4 : wc.cell? ⟨gb101, 4, none⟩ = some (.int .i64 a0_4) := (blk_cell BK101.out 4).trans rfl
                          have hcz65_5 : wc.cell? ⟨gb101, 5, none⟩ = some (.string a0_5) := (blk_cell BK101.out 5).trans rfl
                          have hcz65_6 : wc.cell? ⟨gb101, 6, none⟩ = some (.slice A0_6 l0_6.length c0_6) := (blk_cell BK101.out 6).trans rfl
                          have hcz65_7 : wc.cell? ⟨gb101, 7, none⟩ = some (.int .i64 a0_7) := (blk_cell BK101.out 7).trans rfl
                          have hfz65_0 := blk_frozen BK101.out 0
                          have hfz65_1 := blk_frozen BK101.out 1
                          have hfz65_2 := blk_frozen BK101.out 2
                          have hfz65_3 := blk_frozen BK101.out 3
                          have hfz65_4 := blk_frozen BK101.out 4
                          have hfz65_5 := blk_frozen BK101.out 5
                          have hfz65_6 := blk_frozen BK101.out 6
                          have hfz65_7 := blk_frozen BK101.out 7
                          have p126 : 0 ≤ (0 : Int) := (by omega)
                          have q126 : 0 < (t113.length : Int) := of_decide_eq_true (by first | (with_reducible assumption) | assumption)
                          obtain ⟨ad126, e126, hx126_0, hx126_1, hx126_2, hx126_3⟩ := at_T72 (Kd.R_reads' HO_9.out).2.2 0 p126 q126
                          obtain rfl : ad125 = ad126 := (by injection e126)
                          have qi126 : (0 < t113.length) = True := eq_true (by omega)
                          (try rw [show ((0 : Int)).toNat = 0 from rfl] at hx126_0)
                          (try rw [show 0 * 4 = 0 from rfl] at hx126_0)
                          (try rw [Addr.add_zero'] at hx126_0)
                          (try rw [show ((0 : Int)).toNat = 0 from rfl] at hx126_1)
                          (try rw [show 0 * 4 = 0 from rfl] at hx126_1)
                          (try rw [Addr.add_zero'] at hx126_1)
                          (try rw [show ((0 : Int)).toNat = 0 from rfl] at hx126_2)
                          (try rw [show 0 * 4 = 0 from rfl] at hx126_2)
                          (try rw [Addr.add_zero'] at hx126_2)
                          (try rw [show ((0 : Int)).toNat = 0 from rfl] at hx126_3)
                          (try rw [show 0 * 4 = 0 from rfl] at hx126_3)
                          (try rw [Addr.add_zero'] at hx126_3)
                          replace p126 := eq_true p126
                          replace q126 := eq_true q126
                          have p127 : 0 ≤ (0 : Int) := (by omega)
                          have q127 : 0 < (t113.length : Int) := of_decide_eq_true (by first | (with_reducible assumption) | assumption)
                          obtain ⟨ad127, e127, hx127_0, hx127_1, hx127_2, hx127_3⟩ := at_T72 (Kd.R_reads' HO_9.out).2.2 0 p127 q127
                          obtain rfl : ad125 = ad127 := (by injection e127)
                          have qi127 : (0 < t113.length) = True := eq_true (by omega)
                          (try rw [show ((0 : Int)).toNat = 0 from rfl] at hx127_0)
                          (try rw [show 0 * 4 = 0 from rfl] at hx127_0)
                          (try rw [Addr.add_zero'] at hx127_0)
                          (try rw [show ((0 : Int)).toNat = 0 from rfl] at hx127_1)
                          (try rw [show 0 * 4 = 0 from rfl] at hx127_1)
                          (try rw [Addr.add_zero'] at hx127_1)
                          (try rw [show ((0 : Int)).toNat = 0 from rfl] at hx127_2)
                          (try rw [show 0 * 4 = 0 from rfl] at hx127_2)
                          (try rw [Addr.add_zero'] at hx127_2)
                          (try rw [show ((0 : Int)).toNat = 0 from rfl] at hx127_3)
                          (try rw [show 0 * 4 = 0 from rfl] at hx127_3)
                          (try rw [Addr.add_zero'] at hx127_3)
                          replace p127 := eq_true p127
                          replace q127 := eq_true q127
                          go_wp2
                          repeat (go_quiet (fail); try go_wp2)
                          go_ret
                          exact ⟨by first | rfl | (simp [errW_none, errW_some] <;> rfl) | (simp [*, errW_none, errW_some] <;> rfl), by repeat (first | (with_reducible first | exact HB.out | apply below_alloc | apply pw_below_drewN | apply below_drew1 | refine below_set ?_ GE101.out | refine below_set ?_ GE118.out) | exact HB.out)⟩
                        · rw [if_neg c62] at H
                          have c62b0 : (((rd_T72 t113 0).f1).toList == a0_1.toList) = false := beq_eq_false_iff_ne.mpr c62
                          have c62b1 : (((rd_T72 t113 0).f1).toList != a0_1.toList) = true := bne_iff_ne.mpr c62
                          first
                          | exact absurd ((Option.some.inj H).trans HRT.out) (by decide)
                          | (obtain rfl := Option.some.inj H
                             obtain ⟨Ao66, co66, eo66⟩ := Kd.R_slice HO_9.out
                             subst eo66
                             have p125 : 0 ≤ (0 : Int) := (by omega)
                             have q125 : 0 < (t113.length : Int) := of_decide_eq_true (by first | (with_reducible assumption) | assumption)
                             obtain ⟨ad125, e125, hx125_0, hx125_1, hx125_2, hx125_3⟩ := at_T72 (Kd.R_reads' HO_9.out).2.2 0 p125 q125
                             cases e125
                             have qi125 : (0 < t113.length) = True := eq_true (by omega)
                             (try rw [show ((0 : Int)).toNat = 0 from rfl] at hx125_0)
                             (try rw [show 0 * 4 = 0 from rfl] at hx125_0)
                             (try rw [Addr.add_zero'] at hx125_0)
                             (try rw [show ((0 : Int)).toNat = 0 from rfl] at hx125_1)
                             (try rw [show 0 * 4 = 0 from rfl] at hx125_1)
                             (try rw [Addr.add_zero'] at hx125_1)
                             (try rw [show ((0 : Int)).toNat = 0 from rfl] at hx125_2)
                             (try rw [show 0 * 4 = 0 from rfl] at hx125_2)
                             (try rw [Addr.add_zero'] at hx125_2)
                             (try rw [show ((0 : Int)).toNat = 0 from rfl] at hx125_3)
                             (try rw [show 0 * 4 = 0 from rfl] at hx125_3)
                             (try rw [Addr.add_zero'] at hx125_3)
                             replace p125 := eq_true p125
                             replace q125 := eq_true q125
                             have hnb67 := NB101_118.out
                             have hnc67 := NB118_101.out
                             have hcz68_0 : wc.cell? ⟨gb101, 0, none⟩ = some (.int .i64 a0_0) := (blk_cell BK101.out 0).trans rfl
                             have hcz68_1 : wc.cell? ⟨gb101, 1, none⟩ = some (.string a0_1) := (blk_cell BK101.out 1).trans rfl
                             have hcz68_2 : wc.cell? ⟨gb101, 2, none⟩ = some (.string a0_2) := (blk_cell BK101.out 2).trans rfl
                             have hcz68_3 : wc.cell? ⟨gb101, 3, none⟩ = some (.int .i64 a0_3) := (blk_cell BK101.out 3).trans rfl
                             have hcz68_4 : wc.cell? ⟨gb101, 4, none⟩ = some (.int .i64 a0_4) := (blk_cell BK101.out 4).trans rfl
                             have hcz68_5 : wc.cell? ⟨gb101, 5, none⟩ = some (.string a0_5) := (blk_cell BK101.out 5).trans rfl
                             have hcz68_6 : wc.cell? ⟨gb101, 6, none⟩ = some (.slice A0_6 l0_6.length c0_6) := (blk_cell BK101.out 6).trans rfl
                             have hcz68_7 : wc.cell? ⟨gb101, 7, none⟩ = some (.int .i64 a0_7) := (blk_cell BK101.out 7).trans rfl
                             have hfz68_0 := blk_frozen BK101.out 0
                             have hfz68_1 := blk_frozen BK101.out 1
                             have hfz68_2 := blk_frozen BK101.out 2
                             have hfz68_3 := blk_frozen BK101.out 3
                             have hfz68_4 := blk_frozen BK101.out 4
                             have hfz68_5 := blk_frozen BK101.out 5
                             have hfz68_6 := blk_frozen BK101.out 6
                             have hfz68_7 := blk_frozen BK101.out 7
                             have p126 : 0 ≤ (0 : Int) := (by omega)
                             have q126 : 0 < (t113.length : Int) := of_decide_eq_true (by first | (with_reducible assumption) | assumption)
                             obtain ⟨ad126, e126, hx126_0, hx126_1, hx126_2, hx126_3⟩ := at_T72 (Kd.R_reads' HO_9.out).2.2 0 p126 q126
                             obtain rfl : ad125 = ad126 := (by injection e126)
                             have qi126 : (0 < t113.length) = True := eq_true (by omega)
                             (try rw [show ((0 : Int)).toNat = 0 from rfl] at hx126_0)
                             (try rw [show 0 * 4 = 0 from rfl] at hx126_0)
                             (try rw [Addr.add_zero'] at hx126_0)
                             (try rw [show ((0 : Int)).toNat = 0 from rfl] at hx126_1)
                             (try rw [show 0 * 4 = 0 from rfl] at hx126_1)
                             (try rw [Addr.add_zero'] at hx126_1)
                             (try rw [show ((0 : Int)).toNat = 0 from rfl] at hx126_2)
                             (try rw [show 0 * 4 = 0 from rfl] at hx126_2)
                             (try rw [Addr.add_zero'] at hx126_2)
                             (try rw [show ((0 : Int)).toNat = 0 from rfl] at hx126_3)
                             (try rw [show 0 * 4 = 0 from rfl] at hx126_3)
                             (try rw [Addr.add_zero'] at hx126_3)
                             replace p126 := eq_true p126
                             replace q126 := eq_true q126
                             go_wp2
                             repeat (go_quiet (fail); try go_wp2)
                             go_ret
                             exact ⟨by first | rfl | (simp [errW_none, errW_some] <;> rfl) | (simp [*, errW_none, errW_some] <;> rfl), by repeat (first | (with_reducible first | exact HB.out | apply below_alloc | apply pw_below_drewN | apply below_drew1 | refine below_set ?_ GE101.out | refine below_set ?_ GE118.out) | exact HB.out)⟩)
                      · rw [if_neg c61] at H
                        have c61b0 : (((rd_T72 t113 0).f0) == a0_0) = false := beq_eq_false_iff_ne.mpr c61
                        have c61b1 : (((rd_T72 t113 0).f0) != a0_0) = true := bne_iff_ne.mpr c61
                        first
                        | exact absurd ((Option.some.inj H).trans HRT.out) (by decide)
                        | (obtain rfl := Option.some.inj H
                           obtain ⟨Ao69, co69, eo69⟩ := Kd.R_slice HO_9.out
                           subst eo69
                           have p125 : 0 ≤ (0 : Int) := (by omega)
                           have q125 : 0 < (t113.length : Int) := of_decide_eq_true (by first | (with_reducible assumption) | assumption)
                           obtain ⟨ad125, e125, hx125_0, hx125_1, hx125_2, hx125_3⟩ := at_T72 (Kd.R_reads' HO_9.out).2.2 0 p125 q125
                           cases e125
                           have qi125 : (0 < t113.length) = True := eq_true (by omega)
                           (try rw [show ((0 : Int)).toNat = 0 from rfl] at hx125_0)
                           (try rw [show 0 * 4 = 0 from rfl] at hx125_0)
                           (try rw [Addr.add_zero'] at hx125_0)
                           (try rw [show ((0 : Int)).toNat = 0 from rfl] at hx125_1)
                           (try rw [show 0 * 4 = 0 from rfl] at hx125_1)
                           (try rw [Addr.add_zero'] at hx125_1)
                           (try rw [show ((0 : Int)).toNat = 0 from rfl] at hx125_2)
                           (try rw [show 0 * 4 = 0 from rfl] at hx125_2)
                           (try rw [Addr.add_zero'] at hx125_2)
                           (try rw [show ((0 : Int)).toNat = 0 from rfl] at hx125_3)
                           (try rw [show 0 * 4 = 0 from rfl] at hx125_3)
                           (try rw [Addr.add_zero'] at hx125_3)
                           replace p125 := eq_true p125
                           replace q125 := eq_true q125
                           have hnb70 := NB101_118.out
                           have hnc70 := NB118_101.out
                           have hcz71_0 : wc.cell? ⟨gb101, 0, none⟩ = some (.int .i64 a0_0) := (blk_cell BK101.out 0).trans rfl
                           have hcz71_1 : wc.cell? ⟨gb101, 1, none⟩ = some (.string a0_1) := (blk_cell BK101.out 1).trans rfl
                           have hcz71_2 : wc.cell? ⟨gb101, 2, none⟩ = some (.string a0_2) := (blk_cell BK101.out 2).trans rfl
                           have hcz71_3 : wc.cell? ⟨gb101, 3, none⟩ = some (.int .i64 a0_3) := (blk_cell BK101.out 3).trans rfl
                           have hcz71_4 : wc.cell? ⟨gb101, 4, none⟩ = some (.int .i64 a0_4) := (blk_cell BK101.out 4).trans rfl
                           have hcz71_5 : wc.cell? ⟨gb101, 5, none⟩ = some (.string a0_5) := (blk_cell BK101.out 5).trans rfl
                           have hcz71_6 : wc.cell? ⟨gb101, 6, none⟩ = some (.slice A0_6 l0_6.length c0_6) := (blk_cell BK101.out 6).trans rfl
                           have hcz71_7 : wc.cell? ⟨gb101, 7, none⟩ = some (.int .i64 a0_7) := (blk_cell BK101.out 7).trans rfl
                           have hfz71_0 := blk_frozen BK101.out 0
                           have hfz71_1 := blk_frozen BK101.out 1
                           have hfz71_2 := blk_frozen BK101.out 2
                           have hfz71_3 := blk_frozen BK101.out 3
                           have hfz71_4 := blk_frozen BK101.out 4
                           have hfz71_5 := blk_frozen BK101.out 5
                           have hfz71_6 := blk_frozen BK101.out 6
                           have hfz71_7 := blk_frozen BK101.out 7
                           go_wp2
                           repeat (go_quiet (fail); try go_wp2)
                           go_ret
                           exact ⟨by first | rfl | (simp [errW_none, errW_some] <;> rfl) | (simp [*, errW_none, errW_some] <;> rfl), by repeat (first | (with_reducible first | exact HB.out | apply below_alloc | apply pw_below_drewN | apply below_drew1 | refine below_set ?_ GE101.out | refine below_set ?_ GE118.out) | exact HB.out)⟩)
                    · rw [if_neg c60] at H
                      exact absurd H (by simp)
                  · rw [if_neg c59] at H
                    have c59b0 : ((t113.length : Int) == 1) = false := beq_eq_false_iff_ne.mpr c59
                    have c59b1 : ((t113.length : Int) != 1) = true := bne_iff_ne.mpr c59
                    first
                    | exact absurd ((Option.some.inj H).trans HRT.out) (by decide)
                    | (obtain rfl := Option.some.inj H
                       obtain ⟨Ao72, co72, eo72⟩ := Kd.R_slice HO_9.out
                       subst eo72
                       go_wp2
                       repeat (go_quiet (fail); try go_wp2)
                       go_ret
                       exact ⟨by first | rfl | (simp [errW_none, errW_some] <;> rfl) | (simp [*, errW_none, errW_some] <;> rfl), by repeat (first | (with_reducible first | exact HB.out | apply below_alloc | apply pw_below_drewN | apply below_drew1 | refine below_set ?_ GE101.out | refine below_set ?_ GE118.out) | exact HB.out)⟩)
                · rw [if_neg c58] at H
                  have c58b0 : (t117 == 0) = false := beq_eq_false_iff_ne.mpr c58
                  have c58b1 : (t117 != 0) = true := bne_iff_ne.mpr c58
                  first
                  | exact absurd ((Option.some.inj H).trans HRT.out) (by decide)
                  | (obtain rfl := Option.some.inj H
                     go_wp2
                     repeat (go_quiet (fail); try go_wp2)
                     go_ret
                     exact ⟨by first | rfl | (simp [errW_none, errW_some] <;> rfl) | (simp [*, errW_none, errW_some] <;> rfl), by repeat (first | (with_reducible first | exact HB.out | apply below_alloc | apply pw_below_drewN | apply below_drew1 | refine below_set ?_ GE101.out | refine below_set ?_ GE118.out) | exact HB.out)⟩)
              · rw [if_neg c57] at H
                have c57b0 : (a0_0 == 7) = false := beq_eq_false_iff_ne.mpr c57
                have c57b1 : (a0_0 != 7) = true := bne_iff_ne.mpr c57
                first
                | exact absurd ((Option.some.inj H).trans HRT.out) (by decide)
                | (obtain rfl := Option.some.inj H
                   obtain ⟨Ao73, co73, eo73⟩ := Kd.R_slice HO_9.out
                   subst eo73
                   go_wp2
                   repeat (go_quiet (fail); try go_wp2)
                   go_ret
                   exact ⟨by first | rfl | (simp [errW_none, errW_some] <;> rfl) | (simp [*, errW_none, errW_some] <;> rfl), by repeat (first | (with_reducible first | exact HB.out | apply below_alloc | apply pw_below_drewN | apply below_drew1 | refine below_set ?_ GE101.out | refine below_set ?_ GE118.out) | exact HB.out)⟩)
end Go.Proofs.YtiaccdaeomaogaaDoor.F
