/- Texts of one claim, slimmed and merged by slim.py. -/
import Derived.Test.YtiaccdaeomaogaaDoorP4
import Derived.Test.YtiaccdaeomaogaaDoorP7
import Derived.Test.YtiaccdaeomaogaaDoorP11
import Derived.Test.YtiaccdaeomaogaaDoorP16
import Derived.Test.YtiaccdaeomaogaaDoorP17
import Derived.Test.YtiaccdaeomaogaaDoorP18
import Derived.Test.YtiaccdaeomaogaaDoorP21
namespace Go.Proofs.YtiaccdaeomaogaaDoor.F
open Go.RowKit Go.Proofs.YtiaccdaeomaogaaDoorW.PrintWords Go.Proofs.YtiaccdaeomaogaaDoorW.PrintLast Go.Proofs.YtiaccdaeomaogaaDoorW.PrintMore
attribute [local go_sem] max2_int min2_int max_two min_two max_three min_three max_four min_four   -- for this text's walks alone
set_option linter.unusedVariables false
set_option linter.unusedSimpArgs false
mutual
def malthouselaw11_ProgEnds.j0 : Nat → List (S67) → List (S69) → Bool → Bool → Option (Bool)
 | 0, _, _, _, _ => none
 | k + 1, x0, x1, x5, x38 => if x38 = true then (some x5) else (malthouselaw11_ProgEnds.l0 k x0 x1 (x0.length : Int) 0)
def malthouselaw11_ProgEnds.l0 : Nat → List (S67) → List (S69) → Int → Int → Option (Bool)
 | 0, _, _, _, _ => none
 | k + 1, x0, x1, x8, x9 => if x9 < (x0.length : Int) then (if 0 ≤ x9 then (if ((rd_T67 x0 x9).f0) = 6 then (malthouselaw11_ProgEnds.j2 k x0 x1 x8 x9 (decide (((rd_T67 x0 x9).f4) > (x0.length : Int)))) else (malthouselaw11_ProgEnds.j2 k x0 x1 x8 x9 false)) else (none)) else (malthouselaw11_ProgEnds.l1 k x0 x1 x8 ((x0.length : Int) == 0) 0 0 0)
def malthouselaw11_ProgEnds.j2 : Nat → List (S67) → List (S69) → Int → Int → Bool → Option (Bool)
 | 0, _, _, _, _, _ => none
 | k + 1, x0, x1, x8, x9, x63 => if x63 = true then (some true) else (if 0 ≤ x9 then (if x9 < (x0.length : Int) then ((expr_Eval.f k ((rd_T67 x0 x9).f3.f0) ((rd_T67 x0 x9).f3.f1) ((rd_T67 x0 x9).f3.f2) ((rd_T67 x0 x9).f3.f3) x1).bind fun bt108 => (if ((rd_T67 x0 x9).f0) = 1 then (if bt108.2 = 0 then (if bt108.1 = 0 then (malthouselaw11_ProgEnds.j3 k x0 x1 x8 x9 bt108.1 true) else (if ((rd_T67 x0 x9).f0) = 2 then (malthouselaw11_ProgEnds.j3 k x0 x1 x8 x9 bt108.1 (decide (bt108.1 > 20))) else (malthouselaw11_ProgEnds.j3 k x0 x1 x8 x9 bt108.1 false))) else (malthouselaw11_ProgEnds.j3 k x0 x1 x8 x9 bt108.1 true)) else (if ((rd_T67 x0 x9).f0) = 2 then (malthouselaw11_ProgEnds.j3 k x0 x1 x8 x9 bt108.1 (decide (bt108.1 > 20))) else (malthouselaw11_ProgEnds.j3 k x0 x1 x8 x9 bt108.1 false)))) else (none)) else (none))
def malthouselaw11_ProgEnds.j3 : Nat → List (S67) → List (S69) → Int → Int → Int → Bool → Option (Bool)
 | 0, _, _, _, _, _, _ => none
 | k + 1, x0, x1, x8, x9, x10, x99 => if x99 = true then (some true) else (if 0 ≤ x9 then (if x9 < (x0.length : Int) then (if ((rd_T67 x0 x9).f0) = 2 then (if x10 > 0 then (malthouselaw11_ProgEnds.l0 k x0 x1 (wrap64 (x8 + x10)) (wrap64 (x9 + 1))) else (malthouselaw11_ProgEnds.l0 k x0 x1 x8 (wrap64 (x9 + 1)))) else (malthouselaw11_ProgEnds.l0 k x0 x1 x8 (wrap64 (x9 + 1)))) else (none)) else (none))
def malthouselaw11_ProgEnds.l1 : Nat → List (S67) → List (S69) → Int → Bool → Int → Int → Int → Option (Bool)
 | 0, _, _, _, _, _, _, _ => none
 | k + 1, x0, x1, x8, x13, x14, x115000, x115001 => if x14 < x8 then (malthouselaw11_ProgEnds.j5 k x0 x1 x8 x13 x14 (!x13) x115000 x115001) else (malthouselaw11_ProgEnds.j5 k x0 x1 x8 x13 x14 false x115000 x115001)
def malthouselaw11_ProgEnds.j5 : Nat → List (S67) → List (S69) → Int → Bool → Int → Bool → Int → Int → Option (Bool)
 | 0, _, _, _, _, _, _, _, _ => none
 | k + 1, x0, x1, x8, x13, x14, x123, x115000, x115001 => if x123 = true then ((prog_Scan.f k x0 x115000 x115001 x1).bind fun bt115 => (if bt115.2.2.2.2 = 0 then (malthouselaw11_ProgEnds.l1 k x0 x1 x8 bt115.2.2.2.1 (wrap64 (x14 + 1)) bt115.1 bt115.2.1) else (some true))) else (some x13)
end
def malthouselaw11_ProgEnds.f (k : Nat) (l0 : List (S67)) (l1 : List (S69)) : Option (Bool) := (malthouselaw11_awake.f k).bind fun t101 => ((malthouseref11_Light.f k l0).bind fun t102 => ((malthouselaw11_cells.f k l1).bind fun t103 => (if t101 = true then (if t102 = true then (if t103 = true then ((prog_Ends.f k l0).bind fun t104 => (malthouselaw11_ProgEnds.j0 k l0 l1 t101 (!t104))) else (malthouselaw11_ProgEnds.j0 k l0 l1 t101 true)) else (malthouselaw11_ProgEnds.j0 k l0 l1 t101 true)) else (malthouselaw11_ProgEnds.j0 k l0 l1 t101 true))))
theorem malthouselaw11_ProgEnds.mono_l : ∀ k, (∀ y0 y1 y2 y3, LeO (malthouselaw11_ProgEnds.j0 k y0 y1 y2 y3) (malthouselaw11_ProgEnds.j0 (k + 1) y0 y1 y2 y3)) ∧ (∀ y0 y1 y2 y3, LeO (malthouselaw11_ProgEnds.l0 k y0 y1 y2 y3) (malthouselaw11_ProgEnds.l0 (k + 1) y0 y1 y2 y3)) ∧ (∀ y0 y1 y2 y3 y4, LeO (malthouselaw11_ProgEnds.j2 k y0 y1 y2 y3 y4) (malthouselaw11_ProgEnds.j2 (k + 1) y0 y1 y2 y3 y4)) ∧ (∀ y0 y1 y2 y3 y4 y5, LeO (malthouselaw11_ProgEnds.j3 k y0 y1 y2 y3 y4 y5) (malthouselaw11_ProgEnds.j3 (k + 1) y0 y1 y2 y3 y4 y5)) ∧ (∀ y0 y1 y2 y3 y4 y5 y6, LeO (malthouselaw11_ProgEnds.l1 k y0 y1 y2 y3 y4 y5 y6) (malthouselaw11_ProgEnds.l1 (k + 1) y0 y1 y2 y3 y4 y5 y6)) ∧ (∀ y0 y1 y2 y3 y4 y5 y6 y7, LeO (malthouselaw11_ProgEnds.j5 k y0 y1 y2 y3 y4 y5 y6 y7) (malthouselaw11_ProgEnds.j5 (k + 1) y0 y1 y2 y3 y4 y5 y6 y7))
 | 0 => ⟨fun _ _ _ _ r h => by simp [malthouselaw11_ProgEnds.j0] at h, fun _ _ _ _ r h => by simp [malthouselaw11_ProgEnds.l0] at h, fun _ _ _ _ _ r h => by simp [malthouselaw11_ProgEnds.j2] at h, fun _ _ _ _ _ _ r h => by simp [malthouselaw11_ProgEnds.j3] at h, fun _ _ _ _ _ _ _ r h => by simp [malthouselaw11_ProgEnds.l1] at h, fun _ _ _ _ _ _ _ _ r h => by simp [malthouselaw11_ProgEnds.j5] at h⟩
 | k + 1 => by
  obtain ⟨ih0, ih1, ih2, ih3, ih4, ih5⟩ := malthouselaw11_ProgEnds.mono_l k
  refine ⟨?_, ?_, ?_, ?_, ?_, ?_⟩
  ·intro y0 y1 y2 y3
   unfold malthouselaw11_ProgEnds.j0
   repeat' first
   | (with_reducible exact ih0 _ _ _ _)
   | (with_reducible exact ih1 _ _ _ _)
   | (with_reducible exact ih2 _ _ _ _ _)
   | (with_reducible exact ih3 _ _ _ _ _ _)
   | (with_reducible exact ih4 _ _ _ _ _ _ _)
   | (with_reducible exact ih5 _ _ _ _ _ _ _ _)
   | (with_reducible exact expr_Eval.mono _ _ _ _ _ _)
   | (with_reducible exact malthouselaw11_awake.mono _)
   | (with_reducible exact malthouselaw11_cells.mono _ _)
   | (with_reducible exact malthouseref11_Light.mono _ _)
   | (with_reducible exact prog_Ends.mono _ _)
   | (with_reducible exact prog_Scan.mono _ _ _ _ _)
   | (with_reducible exact LeO.refl _)
   | (with_reducible exact LeO.none _)
   | (with_reducible refine LeO.ite ?_ ?_)
   | (with_reducible refine LeO.bind ?_ (fun _ => ?_))
   | exact ih0 _ _ _ _
   | exact ih1 _ _ _ _
   | exact ih2 _ _ _ _ _
   | exact ih3 _ _ _ _ _ _
   | exact ih4 _ _ _ _ _ _ _
   | exact ih5 _ _ _ _ _ _ _ _
   | exact expr_Eval.mono _ _ _ _ _ _
   | exact malthouselaw11_awake.mono _
   | exact malthouselaw11_cells.mono _ _
   | exact malthouseref11_Light.mono _ _
   | exact prog_Ends.mono _ _
   | exact prog_Scan.mono _ _ _ _ _
   | exact LeO.none _
   | refine LeO.ite ?_ ?_
   | refine LeO.bind ?_ (fun _ => ?_)
  ·intro y0 y1 y2 y3
   unfold malthouselaw11_ProgEnds.l0
   repeat' first
   | (with_reducible exact ih0 _ _ _ _)
   | (with_reducible exact ih1 _ _ _ _)
   | (with_reducible exact ih2 _ _ _ _ _)
   | (with_reducible exact ih3 _ _ _ _ _ _)
   | (with_reducible exact ih4 _ _ _ _ _ _ _)
   | (with_reducible exact ih5 _ _ _ _ _ _ _ _)
   | (with_reducible exact expr_Eval.mono _ _ _ _ _ _)
   | (with_reducible exact malthouselaw11_awake.mono _)
   | (with_reducible exact malthouselaw11_cells.mono _ _)
   | (with_reducible exact malthouseref11_Light.mono _ _)
   | (with_reducible exact prog_Ends.mono _ _)
   | (with_reducible exact prog_Scan.mono _ _ _ _ _)
   | (with_reducible exact LeO.refl _)
   | (with_reducible exact LeO.none _)
   | (with_reducible refine LeO.ite ?_ ?_)
   | (with_reducible refine LeO.bind ?_ (fun _ => ?_))
   | exact ih0 _ _ _ _
   | exact ih1 _ _ _ _
   | exact ih2 _ _ _ _ _
   | exact ih3 _ _ _ _ _ _
   | exact ih4 _ _ _ _ _ _ _
   | exact ih5 _ _ _ _ _ _ _ _
   | exact expr_Eval.mono _ _ _ _ _ _
   | exact malthouselaw11_awake.mono _
   | exact malthouselaw11_cells.mono _ _
   | exact malthouseref11_Light.mono _ _
   | exact prog_Ends.mono _ _
   | exact prog_Scan.mono _ _ _ _ _
   | exact LeO.none _
   | refine LeO.ite ?_ ?_
   | refine LeO.bind ?_ (fun _ => ?_)
  ·intro y0 y1 y2 y3 y4
   unfold malthouselaw11_ProgEnds.j2
   repeat' first
   | (with_reducible exact ih0 _ _ _ _)
   | (with_reducible exact ih1 _ _ _ _)
   | (with_reducible exact ih2 _ _ _ _ _)
   | (with_reducible exact ih3 _ _ _ _ _ _)
   | (with_reducible exact ih4 _ _ _ _ _ _ _)
   | (with_reducible exact ih5 _ _ _ _ _ _ _ _)
   | (with_reducible exact expr_Eval.mono _ _ _ _ _ _)
   | (with_reducible exact malthouselaw11_awake.mono _)
   | (with_reducible exact malthouselaw11_cells.mono _ _)
   | (with_reducible exact malthouseref11_Light.mono _ _)
   | (with_reducible exact prog_Ends.mono _ _)
   | (with_reducible exact prog_Scan.mono _ _ _ _ _)
   | (with_reducible exact LeO.refl _)
   | (with_reducible exact LeO.none _)
   | (with_reducible refine LeO.ite ?_ ?_)
   | (with_reducible refine LeO.bind ?_ (fun _ => ?_))
   | exact ih0 _ _ _ _
   | exact ih1 _ _ _ _
   | exact ih2 _ _ _ _ _
   | exact ih3 _ _ _ _ _ _
   | exact ih4 _ _ _ _ _ _ _
   | exact ih5 _ _ _ _ _ _ _ _
   | exact expr_Eval.mono _ _ _ _ _ _
   | exact malthouselaw11_awake.mono _
   | exact malthouselaw11_cells.mono _ _
   | exact malthouseref11_Light.mono _ _
   | exact prog_Ends.mono _ _
   | exact prog_Scan.mono _ _ _ _ _
   | exact LeO.none _
   | refine LeO.ite ?_ ?_
   | refine LeO.bind ?_ (fun _ => ?_)
  ·intro y0 y1 y2 y3 y4 y5
   unfold malthouselaw11_ProgEnds.j3
   repeat' first
   | (with_reducible exact ih0 _ _ _ _)
   | (with_reducible exact ih1 _ _ _ _)
   | (with_reducible exact ih2 _ _ _ _ _)
   | (with_reducible exact ih3 _ _ _ _ _ _)
   | (with_reducible exact ih4 _ _ _ _ _ _ _)
   | (with_reducible exact ih5 _ _ _ _ _ _ _ _)
   | (with_reducible exact expr_Eval.mono _ _ _ _ _ _)
   | (with_reducible exact malthouselaw11_awake.mono _)
   | (with_reducible exact malthouselaw11_cells.mono _ _)
   | (with_reducible exact malthouseref11_Light.mono _ _)
   | (with_reducible exact prog_Ends.mono _ _)
   | (with_reducible exact prog_Scan.mono _ _ _ _ _)
   | (with_reducible exact LeO.refl _)
   | (with_reducible exact LeO.none _)
   | (with_reducible refine LeO.ite ?_ ?_)
   | (with_reducible refine LeO.bind ?_ (fun _ => ?_))
   | exact ih0 _ _ _ _
   | exact ih1 _ _ _ _
   | exact ih2 _ _ _ _ _
   | exact ih3 _ _ _ _ _ _
   | exact ih4 _ _ _ _ _ _ _
   | exact ih5 _ _ _ _ _ _ _ _
   | exact expr_Eval.mono _ _ _ _ _ _
   | exact malthouselaw11_awake.mono _
   | exact malthouselaw11_cells.mono _ _
   | exact malthouseref11_Light.mono _ _
   | exact prog_Ends.mono _ _
   | exact prog_Scan.mono _ _ _ _ _
   | exact LeO.none _
   | refine LeO.ite ?_ ?_
   | refine LeO.bind ?_ (fun _ => ?_)
  ·intro y0 y1 y2 y3 y4 y5 y6
   unfold malthouselaw11_ProgEnds.l1
   repeat' first
   | (with_reducible exact ih0 _ _ _ _)
   | (with_reducible exact ih1 _ _ _ _)
   | (with_reducible exact ih2 _ _ _ _ _)
   | (with_reducible exact ih3 _ _ _ _ _ _)
   | (with_reducible exact ih4 _ _ _ _ _ _ _)
   | (with_reducible exact ih5 _ _ _ _ _ _ _ _)
   | (with_reducible exact expr_Eval.mono _ _ _ _ _ _)
   | (with_reducible exact malthouselaw11_awake.mono _)
   | (with_reducible exact malthouselaw11_cells.mono _ _)
   | (with_reducible exact malthouseref11_Light.mono _ _)
   | (with_reducible exact prog_Ends.mono _ _)
   | (with_reducible exact prog_Scan.mono _ _ _ _ _)
   | (with_reducible exact LeO.refl _)
   | (with_reducible exact LeO.none _)
   | (with_reducible refine LeO.ite ?_ ?_)
   | (with_reducible refine LeO.bind ?_ (fun _ => ?_))
   | exact ih0 _ _ _ _
   | exact ih1 _ _ _ _
   | exact ih2 _ _ _ _ _
   | exact ih3 _ _ _ _ _ _
   | exact ih4 _ _ _ _ _ _ _
   | exact ih5 _ _ _ _ _ _ _ _
   | exact expr_Eval.mono _ _ _ _ _ _
   | exact malthouselaw11_awake.mono _
   | exact malthouselaw11_cells.mono _ _
   | exact malthouseref11_Light.mono _ _
   | exact prog_Ends.mono _ _
   | exact prog_Scan.mono _ _ _ _ _
   | exact LeO.none _
   | refine LeO.ite ?_ ?_
   | refine LeO.bind ?_ (fun _ => ?_)
  ·intro y0 y1 y2 y3 y4 y5 y6 y7
   unfold malthouselaw11_ProgEnds.j5
   repeat' first
   | (with_reducible exact ih0 _ _ _ _)
   | (with_reducible exact ih1 _ _ _ _)
   | (with_reducible exact ih2 _ _ _ _ _)
   | (with_reducible exact ih3 _ _ _ _ _ _)
   | (with_reducible exact ih4 _ _ _ _ _ _ _)
   | (with_reducible exact ih5 _ _ _ _ _ _ _ _)
   | (with_reducible exact expr_Eval.mono _ _ _ _ _ _)
   | (with_reducible exact malthouselaw11_awake.mono _)
   | (with_reducible exact malthouselaw11_cells.mono _ _)
   | (with_reducible exact malthouseref11_Light.mono _ _)
   | (with_reducible exact prog_Ends.mono _ _)
   | (with_reducible exact prog_Scan.mono _ _ _ _ _)
   | (with_reducible exact LeO.refl _)
   | (with_reducible exact LeO.none _)
   | (with_reducible refine LeO.ite ?_ ?_)
   | (with_reducible refine LeO.bind ?_ (fun _ => ?_))
   | exact ih0 _ _ _ _
   | exact ih1 _ _ _ _
   | exact ih2 _ _ _ _ _
   | exact ih3 _ _ _ _ _ _
   | exact ih4 _ _ _ _ _ _ _
   | exact ih5 _ _ _ _ _ _ _ _
   | exact expr_Eval.mono _ _ _ _ _ _
   | exact malthouselaw11_awake.mono _
   | exact malthouselaw11_cells.mono _ _
   | exact malthouseref11_Light.mono _ _
   | exact prog_Ends.mono _ _
   | exact prog_Scan.mono _ _ _ _ _
   | exact LeO.none _
   | refine LeO.ite ?_ ?_
   | refine LeO.bind ?_ (fun _ => ?_)
theorem malthouselaw11_ProgEnds.mono : ∀ a0 a1 k, LeO (malthouselaw11_ProgEnds.f k a0 a1) (malthouselaw11_ProgEnds.f (k + 1) a0 a1) := by
 intro a0 a1 k
 obtain ⟨ih0, ih1, ih2, ih3, ih4, ih5⟩ := malthouselaw11_ProgEnds.mono_l k
 unfold malthouselaw11_ProgEnds.f
 repeat' first
   | (with_reducible exact ih0 _ _ _ _)
   | (with_reducible exact ih1 _ _ _ _)
   | (with_reducible exact ih2 _ _ _ _ _)
   | (with_reducible exact ih3 _ _ _ _ _ _)
   | (with_reducible exact ih4 _ _ _ _ _ _ _)
   | (with_reducible exact ih5 _ _ _ _ _ _ _ _)
   | (with_reducible exact expr_Eval.mono _ _ _ _ _ _)
   | (with_reducible exact malthouselaw11_awake.mono _)
   | (with_reducible exact malthouselaw11_cells.mono _ _)
   | (with_reducible exact malthouseref11_Light.mono _ _)
   | (with_reducible exact prog_Ends.mono _ _)
   | (with_reducible exact prog_Scan.mono _ _ _ _ _)
   | (with_reducible exact LeO.refl _)
   | (with_reducible exact LeO.none _)
   | (with_reducible refine LeO.ite ?_ ?_)
   | (with_reducible refine LeO.bind ?_ (fun _ => ?_))
   | exact ih0 _ _ _ _
   | exact ih1 _ _ _ _
   | exact ih2 _ _ _ _ _
   | exact ih3 _ _ _ _ _ _
   | exact ih4 _ _ _ _ _ _ _
   | exact ih5 _ _ _ _ _ _ _ _
   | exact expr_Eval.mono _ _ _ _ _ _
   | exact malthouselaw11_awake.mono _
   | exact malthouselaw11_cells.mono _ _
   | exact malthouseref11_Light.mono _ _
   | exact prog_Ends.mono _ _
   | exact prog_Scan.mono _ _ _ _ _
   | exact LeO.none _
   | refine LeO.ite ?_ ?_
   | refine LeO.bind ?_ (fun _ => ?_)
set_option maxHeartbeats 8000000 in
set_option maxRecDepth 100000 in
theorem malthouselaw11_ProgEnds.calls (k : Nat) (A0 : Option Addr) (c0 : Nat) (l0 : List (S67)) (A1 : Option Addr) (c1 : Nat) (l1 : List (S69)) (r : Bool) (w : World) (hr0 : Kd.C k67 w A0 l0.length l0) (hc0 : l0.length ≤ c0) (hr1 : Kd.C k69 w A1 l1.length l1) (hc1 : l1.length ≤ c1) (h : malthouselaw11_ProgEnds.f k l0 l1 = some r) (hT : UT w) (hR : r = true) :
    Calls Tryd.prog 14 #[.slice A0 l0.length c0, .slice A1 l1.length c1] w fun e w' => e = .returned (.bool r) ∧ Below w.heap.size w w' := by
  have HT0 := Aside0.mk hT
  clear hT
  have HRT := Aside0.mk hR
  clear hR
  have hu34 := Tryd.underlying34
  have hu57 := Tryd.underlying57
  have HR0 := Aside0.mk hr0
  have HC0 := Aside0.mk hc0
  clear hr0 hc0
  have HR1 := Aside0.mk hr1
  have HC1 := Aside0.mk hc1
  clear hr1 hc1
  have HB := Aside0.mk (Below.refl w.heap.size w)
  have H : ((malthouselaw11_awake.f k).bind fun t101 => ((malthouseref11_Light.f k l0).bind fun t102 => ((malthouselaw11_cells.f k l1).bind fun t103 => (if t101 = true then (if t102 = true then (if t103 = true then ((prog_Ends.f k l0).bind fun t104 => (malthouselaw11_ProgEnds.j0 k l0 l1 t101 (!t104))) else (malthouselaw11_ProgEnds.j0 k l0 l1 t101 true)) else (malthouselaw11_ProgEnds.j0 k l0 l1 t101 true)) else (malthouselaw11_ProgEnds.j0 k l0 l1 t101 true))))) = some r := h
  clear h
  replace H := Option.bind_eq_some_iff.mp H
  obtain ⟨t101, A30, H⟩ := H
  replace H : ((malthouseref11_Light.f k l0).bind fun t102 => ((malthouselaw11_cells.f k l1).bind fun t103 => (if t101 = true then (if t102 = true then (if t103 = true then ((prog_Ends.f k l0).bind fun t104 => (malthouselaw11_ProgEnds.j0 k l0 l1 t101 (!t104))) else (malthouselaw11_ProgEnds.j0 k l0 l1 t101 true)) else (malthouselaw11_ProgEnds.j0 k l0 l1 t101 true)) else (malthouselaw11_ProgEnds.j0 k l0 l1 t101 true)))) = some r := H
  have A3 := Aside0.mk A30
  clear A30
  replace H := Option.bind_eq_some_iff.mp H
  obtain ⟨t102, A40, H⟩ := H
  replace H : ((malthouselaw11_cells.f k l1).bind fun t103 => (if t101 = true then (if t102 = true then (if t103 = true then ((prog_Ends.f k l0).bind fun t104 => (malthouselaw11_ProgEnds.j0 k l0 l1 t101 (!t104))) else (malthouselaw11_ProgEnds.j0 k l0 l1 t101 true)) else (malthouselaw11_ProgEnds.j0 k l0 l1 t101 true)) else (malthouselaw11_ProgEnds.j0 k l0 l1 t101 true))) = some r := H
  have A4 := Aside0.mk A40
  clear A40
  replace H := Option.bind_eq_some_iff.mp H
  obtain ⟨t103, A50, H⟩ := H
  replace H : (if t101 = true then (if t102 = true then (if t103 = true then ((prog_Ends.f k l0).bind fun t104 => (malthouselaw11_ProgEnds.j0 k l0 l1 t101 (!t104))) else (malthouselaw11_ProgEnds.j0 k l0 l1 t101 true)) else (malthouselaw11_ProgEnds.j0 k l0 l1 t101 true)) else (malthouselaw11_ProgEnds.j0 k l0 l1 t101 true)) = some r := H
  have A5 := Aside0.mk A50
  clear A50
  have HC6 := Aside0.mk H
  clear H
  go_enter Tryd.func14, Tryd.ntmps14
  go_upto_region 4 with (first | ((with_reducible refine gate_callee (f := 35) rfl ?_); refine goesL_ (some 19) rfl rfl Tryd.func35 (by kernel_rfl) rfl #[] rfl (by (try simp only [List.map_toArray, List.map_cons, List.map_nil]); first | done | rfl | (simp only [List.length_drop, List.length_take]; rfl)) ?_; (with_reducible refine (malthouselaw11_awake.calls k  t101 _ A3.out (by first | exact HT0.out | exact UT.below HT0.out (by repeat (first | (with_reducible first | exact HB.out | apply below_alloc | apply pw_below_drewN | apply below_drew1) | exact HB.out))) (malthouselaw11_awake_r A3.out)).mono ?_); rintro e w7 ⟨rfl, hb⟩; refine ⟨_, rfl, ?_⟩; have n0_ := Aside0.mk (below_step (by repeat (first | (with_reducible first | exact HB.out | apply below_alloc | apply pw_below_drewN | apply below_drew1) | exact HB.out)) hb); clear HB; have HB := n0_; clear n0_; (try clear hb); (try clear hb2); (try clear hk); (try clear hi)) | ((with_reducible refine gate_callee (f := 36) rfl ?_); refine goesL_ (some 21) rfl rfl Tryd.func36 (by kernel_rfl) rfl #[.slice A0 l0.length c0] rfl (by (try simp only [List.map_toArray, List.map_cons, List.map_nil]); first | done | rfl | (simp only [List.length_drop, List.length_take]; rfl)) ?_; (with_reducible refine (malthouseref11_Light.calls k _ _ l0 t102 _ ?side1 ?side2 A4.out).mono ?_); (case side1 => repeat (first | exact (Kd.C_below HR0.out HB.out) | (with_reducible refine Kd.C_alloc ?_ _) | (with_reducible refine Kd.C_drewN ?_ _) | (with_reducible refine Kd.C_drew ?_))); (case side2 => exact HC0.out); rintro e w8 ⟨rfl, hb⟩; refine ⟨_, rfl, ?_⟩; have n0_ := Aside0.mk (below_step (by repeat (first | (with_reducible first | exact HB.out | apply below_alloc | apply pw_below_drewN | apply below_drew1) | exact HB.out)) hb); clear HB; have HB := n0_; clear n0_; (try clear hb); (try clear hb2); (try clear hk); (try clear hi)) | ((with_reducible refine gate_callee (f := 37) rfl ?_); refine goesL_ (some 23) rfl rfl Tryd.func37 (by kernel_rfl) rfl #[.slice A1 l1.length c1] rfl (by (try simp only [List.map_toArray, List.map_cons, List.map_nil]); first | done | rfl | (simp only [List.length_drop, List.length_take]; rfl)) ?_; (with_reducible refine (malthouselaw11_cells.calls k _ _ l1 t103 _ ?side1 ?side2 A5.out).mono ?_); (case side1 => repeat (first | exact (Kd.C_below HR1.out HB.out) | (with_reducible refine Kd.C_alloc ?_ _) | (with_reducible refine Kd.C_drewN ?_ _) | (with_reducible refine Kd.C_drew ?_))); (case side2 => exact HC1.out); rintro e w' ⟨rfl, ⟨nd, rfl⟩⟩; refine ⟨_, rfl, ?_⟩))
  (try simp only [Act.put, List.setIfInBounds_toArray, List.set_cons_zero, List.set_cons_succ])
  go_cut [38] (fun v38 wc => ∃ (kq : Nat) (x38_5 : Bool), v38 = .bool x38_5 ∧ Aside0 (malthouselaw11_ProgEnds.j0 kq l0 l1 t101 x38_5 = some r) ∧ Aside0 (kq ≤ k) ∧ Aside0 (Below w.heap.size w wc))
  case first =>
    have H := HC6.out
    clear HC6
    by_cases c9 : t101 = true
    · subst c9
      have H1 : (if t102 = true then (if t103 = true then ((prog_Ends.f k l0).bind fun t104 => (malthouselaw11_ProgEnds.j0 k l0 l1 true (!t104))) else (malthouselaw11_ProgEnds.j0 k l0 l1 true true)) else (malthouselaw11_ProgEnds.j0 k l0 l1 true true)) = some r := by rw [if_pos rfl] at H; exact H
      clear H
      have H := H1
      clear H1
      by_cases c10 : t102 = true
      · subst c10
        have H1 : (if t103 = true then ((prog_Ends.f k l0).bind fun t104 => (malthouselaw11_ProgEnds.j0 k l0 l1 true (!t104))) else (malthouselaw11_ProgEnds.j0 k l0 l1 true true)) = some r := by rw [if_pos rfl] at H; exact H
        clear H
        have H := H1
        clear H1
        by_cases c11 : t103 = true
        · subst c11
          have H1 : ((prog_Ends.f k l0).bind fun t104 => (malthouselaw11_ProgEnds.j0 k l0 l1 true (!t104))) = some r := by rw [if_pos rfl] at H; exact H
          clear H
          have H := H1
          clear H1
          replace H := Option.bind_eq_some_iff.mp H
          obtain ⟨t104, A120, H⟩ := H
          replace H : (malthouselaw11_ProgEnds.j0 k l0 l1 true (!t104)) = some r := H
          have A12 := Aside0.mk A120
          clear A120
          have H' := Aside0.mk H
          clear H
          go_wp2_with (first | (go_at_call 46; (with_reducible refine (prog_Ends.calls k _ _ l0 t104 _ ?side1 ?side2 A12.out).mono ?_); (case side1 => repeat (first | exact (Kd.C_below HR0.out HB.out) | (with_reducible refine Kd.C_alloc ?_ _) | (with_reducible refine Kd.C_drewN ?_ _) | (with_reducible refine Kd.C_drew ?_))); (case side2 => exact HC0.out); rintro e w13 ⟨rfl, hb⟩; have n0_ := Aside0.mk (below_step (by repeat (first | (with_reducible first | exact HB.out | apply below_alloc | apply pw_below_drewN | apply below_drew1) | exact HB.out)) hb); clear HB; have HB := n0_; clear n0_; (try clear hb); (try clear hb2); (try clear hk); (try clear hi)))
          go_meet
          case rel => exact ⟨_, (!t104), (by first | rfl | (simp; done) | (simp [*]; done)), H', ⟨by first | omega | exact Nat.le_refl _⟩, ⟨by repeat (first | (with_reducible first | exact HB.out | apply below_alloc | apply pw_below_drewN | apply below_drew1) | exact HB.out)⟩⟩
        · replace c11 := Bool.eq_false_iff.mpr c11
          subst c11
          have H1 : (malthouselaw11_ProgEnds.j0 k l0 l1 true true) = some r := by rw [if_neg (show ¬ (false = true) by decide)] at H; exact H
          clear H
          have H := H1
          clear H1
          have H' := Aside0.mk H
          clear H
          go_wp2
          go_meet
          case rel => exact ⟨_, (true), (by first | rfl | (simp; done) | (simp [*]; done)), H', ⟨by first | omega | exact Nat.le_refl _⟩, ⟨by repeat (first | (with_reducible first | exact HB.out | apply below_alloc | apply pw_below_drewN | apply below_drew1) | exact HB.out)⟩⟩
      · replace c10 := Bool.eq_false_iff.mpr c10
        subst c10
        have H1 : (malthouselaw11_ProgEnds.j0 k l0 l1 true true) = some r := by rw [if_neg (show ¬ (false = true) by decide)] at H; exact H
        clear H
        have H := H1
        clear H1
        have H' := Aside0.mk H
        clear H
        go_wp2
        go_meet
        case rel => exact ⟨_, (true), (by first | rfl | (simp; done) | (simp [*]; done)), H', ⟨by first | omega | exact Nat.le_refl _⟩, ⟨by repeat (first | (with_reducible first | exact HB.out | apply below_alloc | apply pw_below_drewN | apply below_drew1) | exact HB.out)⟩⟩
    · replace c9 := Bool.eq_false_iff.mpr c9
      subst c9
      have H1 : (malthouselaw11_ProgEnds.j0 k l0 l1 false true) = some r := by rw [if_neg (show ¬ (false = true) by decide)] at H; exact H
      clear H
      have H := H1
      clear H1
      have H' := Aside0.mk H
      clear H
      go_wp2
      go_meet
      case rel => exact ⟨_, (true), (by first | rfl | (simp; done) | (simp [*]; done)), H', ⟨by first | omega | exact Nat.le_refl _⟩, ⟨by repeat (first | (with_reducible first | exact HB.out | apply below_alloc | apply pw_below_drewN | apply below_drew1) | exact HB.out)⟩⟩
  case rest =>
    clear HC6
    try clear c1
    try clear p2
    try clear c3
    try clear c9
    try clear c10
    try clear c11
    obtain ⟨kq, x38_5, rfl, HA, HJ5, HB⟩ := hcut
    cases kq with
    | zero => exact absurd HA.out (by simp [malthouselaw11_ProgEnds.j0])
    | succ kj5 =>
      have H := HA.out
      clear HA
      simp only [malthouselaw11_ProgEnds.j0] at H
      by_cases c14 : x38_5 = true
      · subst c14
        have H1 : (some t101) = some r := by rw [if_pos rfl] at H; exact H
        clear H
        have H := H1
        clear H1
        obtain rfl := Option.some.inj H
        go_wp2
        go_ret
        exact ⟨by first | rfl | (simp [errW_none, errW_some] <;> rfl) | (simp [*, errW_none, errW_some] <;> rfl), by repeat (first | (with_reducible first | exact HB.out | apply below_alloc | apply pw_below_drewN | apply below_drew1) | exact HB.out)⟩
      · replace c14 := Bool.eq_false_iff.mpr c14
        subst c14
        have H1 : (malthouselaw11_ProgEnds.l0 kj5 l0 l1 (l0.length : Int) 0) = some r := by rw [if_neg (show ¬ (false = true) by decide)] at H; exact H
        clear H
        have H := H1
        clear H1
        have H' := Aside0.mk H
        clear H
        go_wp2
        go_loopg [8, 9] kj5 (fun kq v8 v9 w' => ∃ (x8_2 : Int) (x9_2 : Int), v8 = .int .i64 x8_2 ∧ v9 = .int .i64 x9_2 ∧ Aside0 (malthouselaw11_ProgEnds.l0 kq l0 l1 x8_2 x9_2 = some r) ∧ Aside0 (kq ≤ kj5) ∧ Aside0 (Below w.heap.size w w'))
        case atStart => exact ⟨((l0.length : Int)), (0), (by first | rfl | (simp; done) | (simp [*]; done)), (by first | rfl | (simp; done) | (simp [*]; done)), H', ⟨Nat.le_refl _⟩, ⟨by repeat (first | (with_reducible first | exact HB.out | apply below_alloc | apply pw_below_drewN | apply below_drew1) | exact HB.out)⟩⟩
        case round =>
          clear H'
          try clear c1
          try clear p2
          try clear c3
          try clear c9
          try clear c10
          try clear c11
          try clear c14
          try clear p2
          obtain ⟨x8_2, x9_2, rfl, rfl, HA, HK2, HB⟩ := hrel
          cases gk with
          | zero => exact absurd HA.out (by simp [malthouselaw11_ProgEnds.l0])
          | succ k2 =>
            have H := HA.out
            clear HA
            simp only [malthouselaw11_ProgEnds.l0] at H
            by_cases c15 : x9_2 < (l0.length : Int)
            · rw [if_pos c15] at H
              have c15b0 : decide (x9_2 < (l0.length : Int)) = true := decide_eq_true c15
              clear c15
              have HC16 := Aside0.mk H
              clear H
              go_upto_region 10 with (fail)
              go_cut [63] (fun v63 wc => ∃ (kq : Nat) (x63_15 : Bool), v63 = .bool x63_15 ∧ Aside0 (malthouselaw11_ProgEnds.j2 kq l0 l1 x8_2 x9_2 x63_15 = some r) ∧ Aside0 (kq ≤ k2) ∧ Aside0 (Below w.heap.size w wc))
              case first =>
                have H := HC16.out
                clear HC16
                by_cases c17 : 0 ≤ x9_2
                · rw [if_pos c17] at H
                  have c17b0 : decide (0 ≤ x9_2) = true := decide_eq_true c17
                  clear c17
                  (first | rw [c17b0] | (simp only [i64_w, i32_w]; rw [c17b0]) | skip)
                  by_cases c18 : ((rd_T67 l0 x9_2).f0) = 6
                  · rw [if_pos c18] at H
                    have c18b0 : (((rd_T67 l0 x9_2).f0) == 6) = true := beq_iff_eq.mpr c18
                    have c18b1 : (((rd_T67 l0 x9_2).f0) != 6) = false := bne_eq_false_iff_eq.mpr c18
                    clear c18
                    have H' := Aside0.mk H
                    clear H
                    have p105 : 0 ≤ (x9_2 : Int) := of_decide_eq_true (by first | (with_reducible assumption) | assumption)
                    have q105 : x9_2 < (l0.length : Int) := of_decide_eq_true (by first | (with_reducible assumption) | assumption)
                    obtain ⟨ad105, A105_6, c105_6, e105, hx105_0, hx105_1, hx105_2, hx105_3, hx105_4, hx105_5, hx105_6, hx105_7, hl105_6, hi105_6⟩ := at_T67 HR0.out x9_2 p105 q105
                    cases e105
                    replace hx105_0 := (HB.out.cell (World.block_lt_of_cell? w _ hx105_0)).trans hx105_0
                    replace hx105_1 := (HB.out.cell (World.block_lt_of_cell? w _ hx105_1)).trans hx105_1
                    replace hx105_2 := (HB.out.cell (World.block_lt_of_cell? w _ hx105_2)).trans hx105_2
                    replace hx105_3 := (HB.out.cell (World.block_lt_of_cell? w _ hx105_3)).trans hx105_3
                    replace hx105_4 := (HB.out.cell (World.block_lt_of_cell? w _ hx105_4)).trans hx105_4
                    replace hx105_5 := (HB.out.cell (World.block_lt_of_cell? w _ hx105_5)).trans hx105_5
                    replace hx105_6 := (HB.out.cell (World.block_lt_of_cell? w _ hx105_6)).trans hx105_6
                    replace hx105_7 := (HB.out.cell (World.block_lt_of_cell? w _ hx105_7)).trans hx105_7
                    have HR105_6 := Aside0.mk hi105_6
                    have HC105_6 := Aside0.mk hl105_6
                    clear hi105_6 hl105_6
                    replace p105 := eq_true p105
                    replace q105 := eq_true q105
                    have p106 : 0 ≤ (x9_2 : Int) := of_decide_eq_true (by first | (with_reducible assumption) | assumption)
                    have q106 : x9_2 < (l0.length : Int) := of_decide_eq_true (by first | (with_reducible assumption) | assumption)
                    obtain ⟨ad106, A106_6, c106_6, e106, hx106_0, hx106_1, hx106_2, hx106_3, hx106_4, hx106_5, hx106_6, hx106_7, hl106_6, hi106_6⟩ := at_T67 HR0.out x9_2 p106 q106
                    obtain rfl : ad105 = ad106 := (by injection e106)
                    replace hx106_0 := (HB.out.cell (World.block_lt_of_cell? w _ hx106_0)).trans hx106_0
                    replace hx106_1 := (HB.out.cell (World.block_lt_of_cell? w _ hx106_1)).trans hx106_1
                    replace hx106_2 := (HB.out.cell (World.block_lt_of_cell? w _ hx106_2)).trans hx106_2
                    replace hx106_3 := (HB.out.cell (World.block_lt_of_cell? w _ hx106_3)).trans hx106_3
                    replace hx106_4 := (HB.out.cell (World.block_lt_of_cell? w _ hx106_4)).trans hx106_4
                    replace hx106_5 := (HB.out.cell (World.block_lt_of_cell? w _ hx106_5)).trans hx106_5
                    replace hx106_6 := (HB.out.cell (World.block_lt_of_cell? w _ hx106_6)).trans hx106_6
                    replace hx106_7 := (HB.out.cell (World.block_lt_of_cell? w _ hx106_7)).trans hx106_7
                    have HR106_6 := Aside0.mk hi106_6
                    have HC106_6 := Aside0.mk hl106_6
                    clear hi106_6 hl106_6
                    replace p106 := eq_true p106
                    replace q106 := eq_true q106
                    have ea_ := Option.some.inj (hx105_6.symm.trans hx106_6)
                    injection ea_ with ea_ en_ ec_
                    subst ea_
                    subst ec_
                    clear en_
                    go_wp2
                    go_meet
                    case rel => exact ⟨_, (decide (((rd_T67 l0 x9_2).f4) > (l0.length : Int))), (by first | rfl | (simp; done) | (simp [*]; done)), H', ⟨by have := HJ5.out; have := HK2.out; first | omega | exact Nat.le_refl _⟩, ⟨by repeat (first | (with_reducible first | exact HB.out | apply below_alloc | apply pw_below_drewN | apply below_drew1) | exact HB.out)⟩⟩
                  · rw [if_neg c18] at H
                    have c18b0 : (((rd_T67 l0 x9_2).f0) == 6) = false := beq_eq_false_iff_ne.mpr c18
                    have c18b1 : (((rd_T67 l0 x9_2).f0) != 6) = true := bne_iff_ne.mpr c18
                    have H' := Aside0.mk H
                    clear H
                    have p105 : 0 ≤ (x9_2 : Int) := of_decide_eq_true (by first | (with_reducible assumption) | assumption)
                    have q105 : x9_2 < (l0.length : Int) := of_decide_eq_true (by first | (with_reducible assumption) | assumption)
                    obtain ⟨ad105, A105_6, c105_6, e105, hx105_0, hx105_1, hx105_2, hx105_3, hx105_4, hx105_5, hx105_6, hx105_7, hl105_6, hi105_6⟩ := at_T67 HR0.out x9_2 p105 q105
                    cases e105
                    replace hx105_0 := (HB.out.cell (World.block_lt_of_cell? w _ hx105_0)).trans hx105_0
                    replace hx105_1 := (HB.out.cell (World.block_lt_of_cell? w _ hx105_1)).trans hx105_1
                    replace hx105_2 := (HB.out.cell (World.block_lt_of_cell? w _ hx105_2)).trans hx105_2
                    replace hx105_3 := (HB.out.cell (World.block_lt_of_cell? w _ hx105_3)).trans hx105_3
                    replace hx105_4 := (HB.out.cell (World.block_lt_of_cell? w _ hx105_4)).trans hx105_4
                    replace hx105_5 := (HB.out.cell (World.block_lt_of_cell? w _ hx105_5)).trans hx105_5
                    replace hx105_6 := (HB.out.cell (World.block_lt_of_cell? w _ hx105_6)).trans hx105_6
                    replace hx105_7 := (HB.out.cell (World.block_lt_of_cell? w _ hx105_7)).trans hx105_7
                    have HR105_6 := Aside0.mk hi105_6
                    have HC105_6 := Aside0.mk hl105_6
                    clear hi105_6 hl105_6
                    replace p105 := eq_true p105
                    replace q105 := eq_true q105
                    go_wp2
                    go_meet
                    case rel => exact ⟨_, (false), (by first | rfl | (simp; done) | (simp [*]; done)), H', ⟨by have := HJ5.out; have := HK2.out; first | omega | exact Nat.le_refl _⟩, ⟨by repeat (first | (with_reducible first | exact HB.out | apply below_alloc | apply pw_below_drewN | apply below_drew1) | exact HB.out)⟩⟩
                · rw [if_neg c17] at H
                  exact absurd H (by simp)
              case rest =>
                clear HC16
                try clear c1
                try clear p1
                try clear q1
                try clear hx1
                try clear p2
                try clear c3
                try clear c9
                try clear c10
                try clear p10
                try clear q10
                try clear hx10
                try clear c11
                try clear c14
                try clear c15
                try clear c15b0
                try clear c17
                try clear c17b0
                try clear c18
                try clear c18b0
                try clear c18b1
                try clear hx105_0
                try clear hx105_1
                try clear hx105_2
                try clear hx105_3
                try clear hx105_4
                try clear hx105_5
                try clear hx105_6
                try clear hx105_7
                try clear hx106_0
                try clear hx106_1
                try clear hx106_2
                try clear hx106_3
                try clear hx106_4
                try clear hx106_5
                try clear hx106_6
                try clear hx106_7
                try clear p105
                try clear p106
                try clear p2
                try clear q105
                try clear q106
                obtain ⟨kq, x63_15, rfl, HA, HJ15, HB⟩ := hcut
                cases kq with
                | zero => exact absurd HA.out (by simp [malthouselaw11_ProgEnds.j2])
                | succ kj15 =>
                  have H := HA.out
                  clear HA
                  simp only [malthouselaw11_ProgEnds.j2] at H
                  by_cases c19 : x63_15 = true
                  · subst c19
                    have H1 : (some true) = some r := by rw [if_pos rfl] at H; exact H
                    clear H
                    have H := H1
                    clear H1
                    obtain rfl := Option.some.inj H
                    go_wp2
                    go_ret
                    exact ⟨by first | rfl | (simp [errW_none, errW_some] <;> rfl) | (simp [*, errW_none, errW_some] <;> rfl), by repeat (first | (with_reducible first | exact HB.out | apply below_alloc | apply pw_below_drewN | apply below_drew1) | exact HB.out)⟩
                  · replace c19 := Bool.eq_false_iff.mpr c19
                    subst c19
                    have H1 : (if 0 ≤ x9_2 then (if x9_2 < (l0.length : Int) then ((expr_Eval.f kj15 ((rd_T67 l0 x9_2).f3.f0) ((rd_T67 l0 x9_2).f3.f1) ((rd_T67 l0 x9_2).f3.f2) ((rd_T67 l0 x9_2).f3.f3) l1).bind fun bt108 => (if ((rd_T67 l0 x9_2).f0) = 1 then (if bt108.2 = 0 then (if bt108.1 = 0 then (malthouselaw11_ProgEnds.j3 kj15 l0 l1 x8_2 x9_2 bt108.1 true) else (if ((rd_T67 l0 x9_2).f0) = 2 then (malthouselaw11_ProgEnds.j3 kj15 l0 l1 x8_2 x9_2 bt108.1 (decide (bt108.1 > 20))) else (malthouselaw11_ProgEnds.j3 kj15 l0 l1 x8_2 x9_2 bt108.1 false))) else (malthouselaw11_ProgEnds.j3 kj15 l0 l1 x8_2 x9_2 bt108.1 true)) else (if ((rd_T67 l0 x9_2).f0) = 2 then (malthouselaw11_ProgEnds.j3 kj15 l0 l1 x8_2 x9_2 bt108.1 (decide (bt108.1 > 20))) else (malthouselaw11_ProgEnds.j3 kj15 l0 l1 x8_2 x9_2 bt108.1 false)))) else (none)) else (none)) = some r := by rw [if_neg (show ¬ (false = true) by decide)] at H; exact H
                    clear H
                    have H := H1
                    clear H1
                    by_cases c20 : 0 ≤ x9_2
                    · rw [if_pos c20] at H
                      have c20b0 : decide (0 ≤ x9_2) = true := decide_eq_true c20
                      clear c20
                      by_cases c21 : x9_2 < (l0.length : Int)
                      · rw [if_pos c21] at H
                        have c21b0 : decide (x9_2 < (l0.length : Int)) = true := decide_eq_true c21
                        clear c21
                        replace H := Option.bind_eq_some_iff.mp H
                        obtain ⟨⟨t108, t109⟩, A220, H⟩ := H
                        replace H : (if ((rd_T67 l0 x9_2).f0) = 1 then (if t109 = 0 then (if t108 = 0 then (malthouselaw11_ProgEnds.j3 kj15 l0 l1 x8_2 x9_2 t108 true) else (if ((rd_T67 l0 x9_2).f0) = 2 then (malthouselaw11_ProgEnds.j3 kj15 l0 l1 x8_2 x9_2 t108 (decide (t108 > 20))) else (malthouselaw11_ProgEnds.j3 kj15 l0 l1 x8_2 x9_2 t108 false))) else (malthouselaw11_ProgEnds.j3 kj15 l0 l1 x8_2 x9_2 t108 true)) else (if ((rd_T67 l0 x9_2).f0) = 2 then (malthouselaw11_ProgEnds.j3 kj15 l0 l1 x8_2 x9_2 t108 (decide (t108 > 20))) else (malthouselaw11_ProgEnds.j3 kj15 l0 l1 x8_2 x9_2 t108 false))) = some r := H
                        have A22 := Aside0.mk A220
                        clear A220
                        have HC23 := Aside0.mk H
                        clear H
                        have p107 : 0 ≤ (x9_2 : Int) := of_decide_eq_true (by first | (with_reducible assumption) | assumption)
                        have q107 : x9_2 < (l0.length : Int) := of_decide_eq_true (by first | (with_reducible assumption) | assumption)
                        obtain ⟨ad107, A107_6, c107_6, e107, hx107_0, hx107_1, hx107_2, hx107_3, hx107_4, hx107_5, hx107_6, hx107_7, hl107_6, hi107_6⟩ := at_T67 HR0.out x9_2 p107 q107
                        cases e107
                        replace hx107_0 := (HB.out.cell (World.block_lt_of_cell? w _ hx107_0)).trans hx107_0
                        replace hx107_1 := (HB.out.cell (World.block_lt_of_cell? w _ hx107_1)).trans hx107_1
                        replace hx107_2 := (HB.out.cell (World.block_lt_of_cell? w _ hx107_2)).trans hx107_2
                        replace hx107_3 := (HB.out.cell (World.block_lt_of_cell? w _ hx107_3)).trans hx107_3
                        replace hx107_4 := (HB.out.cell (World.block_lt_of_cell? w _ hx107_4)).trans hx107_4
                        replace hx107_5 := (HB.out.cell (World.block_lt_of_cell? w _ hx107_5)).trans hx107_5
                        replace hx107_6 := (HB.out.cell (World.block_lt_of_cell? w _ hx107_6)).trans hx107_6
                        replace hx107_7 := (HB.out.cell (World.block_lt_of_cell? w _ hx107_7)).trans hx107_7
                        have HR107_6 := Aside0.mk hi107_6
                        have HC107_6 := Aside0.mk hl107_6
                        clear hi107_6 hl107_6
                        replace p107 := eq_true p107
                        replace q107 := eq_true q107
                        go_upto_region 13 with (first | ((with_reducible refine gate_callee (f := 30) rfl ?_); refine goesL_ (some 71) rfl rfl Tryd.func30 (by kernel_rfl) rfl #[.agg #[.int .i64 ((rd_T67 l0 x9_2).f3.f0), .int .i64 ((rd_T67 l0 x9_2).f3.f1), .string ((rd_T67 l0 x9_2).f3.f2), .slice A107_6 ((rd_T67 l0 x9_2).f3.f3).length c107_6], .slice A1 l1.length c1] rfl (by (try simp only [List.map_toArray, List.map_cons, List.map_nil]); first | done | rfl | (simp only [List.length_drop, List.length_take]; rfl)) ?_; (with_reducible refine (expr_Eval.calls kj15 ((rd_T67 l0 x9_2).f3.f0) ((rd_T67 l0 x9_2).f3.f1) ((rd_T67 l0 x9_2).f3.f2) _ _ ((rd_T67 l0 x9_2).f3.f3) _ _ l1 t108 t109 _ ?side1 ?side2 ?side3 ?side4 A22.out (by first | exact HT0.out | exact UT.below HT0.out (by repeat (first | (with_reducible first | exact HB.out | apply below_alloc | apply pw_below_drewN | apply below_drew1) | exact HB.out)))).mono ?_); (case side1 => repeat (first | exact (Kd.C_below HR107_6.out HB.out) | (with_reducible refine Kd.C_alloc ?_ _) | (with_reducible refine Kd.C_drewN ?_ _) | (with_reducible refine Kd.C_drew ?_))); (case side2 => exact HC107_6.out); (case side3 => repeat (first | exact (Kd.C_below HR1.out HB.out) | (with_reducible refine Kd.C_alloc ?_ _) | (with_reducible refine Kd.C_drewN ?_ _) | (with_reducible refine Kd.C_drew ?_))); (case side4 => exact HC1.out); rintro e w24 ⟨rfl, hb⟩; refine ⟨_, rfl, ?_⟩; have n0_ := Aside0.mk (below_step (by repeat (first | (with_reducible first | exact HB.out | apply below_alloc | apply pw_below_drewN | apply below_drew1) | exact HB.out)) hb); clear HB; have HB := n0_; clear n0_; (try clear hb); (try clear hb2); (try clear hk); (try clear hi)))
                        (try simp only [Act.put, List.setIfInBounds_toArray, List.set_cons_zero, List.set_cons_succ])
                        go_cut [99] (fun v99 wc => ∃ (kq : Nat) (x99_22 : Bool), v99 = .bool x99_22 ∧ Aside0 (malthouselaw11_ProgEnds.j3 kq l0 l1 x8_2 x9_2 t108 x99_22 = some r) ∧ Aside0 (kq ≤ kj15) ∧ Aside0 (Below w.heap.size w wc))
                        case first =>
                          have H := HC23.out
                          clear HC23
                          by_cases c25 : ((rd_T67 l0 x9_2).f0) = 1
                          · rw [if_pos c25] at H
                            have c25b0 : (((rd_T67 l0 x9_2).f0) == 1) = true := beq_iff_eq.mpr c25
                            have c25b1 : (((rd_T67 l0 x9_2).f0) != 1) = false := bne_eq_false_iff_eq.mpr c25
                            clear c25
                            (first | rw [c25b0] | (simp only [i64_w, i32_w]; rw [c25b0]) | skip)
                            by_cases c26 : t109 = 0
                            · rw [if_pos c26] at H
                              have c26b0 : (t109 == 0) = true := beq_iff_eq.mpr c26
                              have c26b1 : (t109 != 0) = false := bne_eq_false_iff_eq.mpr c26
                              clear c26
                              by_cases c27 : t108 = 0
                              · rw [if_pos c27] at H
                                have c27b0 : (t108 == 0) = true := beq_iff_eq.mpr c27
                                have c27b1 : (t108 != 0) = false := bne_eq_false_iff_eq.mpr c27
                                clear c27
                                have H' := Aside0.mk H
                                clear H
                                have p110 : 0 ≤ (x9_2 : Int) := of_decide_eq_true (by first | (with_reducible assumption) | assumption)
                                have q110 : x9_2 < (l0.length : Int) := of_decide_eq_true (by first | (with_reducible assumption) | assumption)
                                obtain ⟨ad110, A110_6, c110_6, e110, hx110_0, hx110_1, hx110_2, hx110_3, hx110_4, hx110_5, hx110_6, hx110_7, hl110_6, hi110_6⟩ := at_T67 HR0.out x9_2 p110 q110
                                obtain rfl : ad107 = ad110 := (by injection e110)
                                replace hx110_0 := (HB.out.cell (World.block_lt_of_cell? w _ hx110_0)).trans hx110_0
                                replace hx110_1 := (HB.out.cell (World.block_lt_of_cell? w _ hx110_1)).trans hx110_1
                                replace hx110_2 := (HB.out.cell (World.block_lt_of_cell? w _ hx110_2)).trans hx110_2
                                replace hx110_3 := (HB.out.cell (World.block_lt_of_cell? w _ hx110_3)).trans hx110_3
                                replace hx110_4 := (HB.out.cell (World.block_lt_of_cell? w _ hx110_4)).trans hx110_4
                                replace hx110_5 := (HB.out.cell (World.block_lt_of_cell? w _ hx110_5)).trans hx110_5
                                replace hx110_6 := (HB.out.cell (World.block_lt_of_cell? w _ hx110_6)).trans hx110_6
                                replace hx110_7 := (HB.out.cell (World.block_lt_of_cell? w _ hx110_7)).trans hx110_7
                                have HR110_6 := Aside0.mk hi110_6
                                have HC110_6 := Aside0.mk hl110_6
                                clear hi110_6 hl110_6
                                replace p110 := eq_true p110
                                replace q110 := eq_true q110
                                go_wp2
                                go_meet
                                case rel => exact ⟨_, (true), (by first | rfl | (simp; done) | (simp [*]; done)), H', ⟨by have := HJ5.out; have := HK2.out; have := HJ15.out; first | omega | exact Nat.le_refl _⟩, ⟨by repeat (first | (with_reducible first | exact HB.out | apply below_alloc | apply pw_below_drewN | apply below_drew1) | exact HB.out)⟩⟩
                              · rw [if_neg c27] at H
                                have c27b0 : (t108 == 0) = false := beq_eq_false_iff_ne.mpr c27
                                have c27b1 : (t108 != 0) = true := bne_iff_ne.mpr c27
                                by_cases c28 : ((rd_T67 l0 x9_2).f0) = 2
                                · rw [if_pos c28] at H
                                  have c28b0 : (((rd_T67 l0 x9_2).f0) == 2) = true := beq_iff_eq.mpr c28
                                  have c28b1 : (((rd_T67 l0 x9_2).f0) != 2) = false := bne_eq_false_iff_eq.mpr c28
                                  clear c28
                                  have H' := Aside0.mk H
                                  clear H
                                  have p110 : 0 ≤ (x9_2 : Int) := of_decide_eq_true (by first | (with_reducible assumption) | assumption)
                                  have q110 : x9_2 < (l0.length : Int) := of_decide_eq_true (by first | (with_reducible assumption) | assumption)
                                  obtain ⟨ad110, A110_6, c110_6, e110, hx110_0, hx110_1, hx110_2, hx110_3, hx110_4, hx110_5, hx110_6, hx110_7, hl110_6, hi110_6⟩ := at_T67 HR0.out x9_2 p110 q110
                                  obtain rfl : ad107 = ad110 := (by injection e110)
                                  replace hx110_0 := (HB.out.cell (World.block_lt_of_cell? w _ hx110_0)).trans hx110_0
                                  replace hx110_1 := (HB.out.cell (World.block_lt_of_cell? w _ hx110_1)).trans hx110_1
                                  replace hx110_2 := (HB.out.cell (World.block_lt_of_cell? w _ hx110_2)).trans hx110_2
                                  replace hx110_3 := (HB.out.cell (World.block_lt_of_cell? w _ hx110_3)).trans hx110_3
                                  replace hx110_4 := (HB.out.cell (World.block_lt_of_cell? w _ hx110_4)).trans hx110_4
                                  replace hx110_5 := (HB.out.cell (World.block_lt_of_cell? w _ hx110_5)).trans hx110_5
                                  replace hx110_6 := (HB.out.cell (World.block_lt_of_cell? w _ hx110_6)).trans hx110_6
                                  replace hx110_7 := (HB.out.cell (World.block_lt_of_cell? w _ hx110_7)).trans hx110_7
                                  have HR110_6 := Aside0.mk hi110_6
                                  have HC110_6 := Aside0.mk hl110_6
                                  clear hi110_6 hl110_6
                                  replace p110 := eq_true p110
                                  replace q110 := eq_true q110
                                  have p111 : 0 ≤ (x9_2 : Int) := of_decide_eq_true (by first | (with_reducible assumption) | assumption)
                                  have q111 : x9_2 < (l0.length : Int) := of_decide_eq_true (by first | (with_reducible assumption) | assumption)
                                  obtain ⟨ad111, A111_6, c111_6, e111, hx111_0, hx111_1, hx111_2, hx111_3, hx111_4, hx111_5, hx111_6, hx111_7, hl111_6, hi111_6⟩ := at_T67 HR0.out x9_2 p111 q111
                                  obtain rfl : ad107 = ad111 := (by injection e111)
                                  replace hx111_0 := (HB.out.cell (World.block_lt_of_cell? w _ hx111_0)).trans hx111_0
                                  replace hx111_1 := (HB.out.cell (World.block_lt_of_cell? w _ hx111_1)).trans hx111_1
                                  replace hx111_2 := (HB.out.cell (World.block_lt_of_cell? w _ hx111_2)).trans hx111_2
                                  replace hx111_3 := (HB.out.cell (World.block_lt_of_cell? w _ hx111_3)).trans hx111_3
                                  replace hx111_4 := (HB.out.cell (World.block_lt_of_cell? w _ hx111_4)).trans hx111_4
                                  replace hx111_5 := (HB.out.cell (World.block_lt_of_cell? w _ hx111_5)).trans hx111_5
                                  replace hx111_6 := (HB.out.cell (World.block_lt_of_cell? w _ hx111_6)).trans hx111_6
                                  replace hx111_7 := (HB.out.cell (World.block_lt_of_cell? w _ hx111_7)).trans hx111_7
                                  have HR111_6 := Aside0.mk hi111_6
                                  have HC111_6 := Aside0.mk hl111_6
                                  clear hi111_6 hl111_6
                                  replace p111 := eq_true p111
                                  replace q111 := eq_true q111
                                  have ea_ := Option.some.inj (hx110_6.symm.trans hx111_6)
                                  injection ea_ with ea_ en_ ec_
                                  subst ea_
                                  subst ec_
                                  clear en_
                                  go_wp2
                                  go_meet
                                  case rel => exact ⟨_, (decide (t108 > 20)), (by first | rfl | (simp; done) | (simp [*]; done)), H', ⟨by have := HJ5.out; have := HK2.out; have := HJ15.out; first | omega | exact Nat.le_refl _⟩, ⟨by repeat (first | (with_reducible first | exact HB.out | apply below_alloc | apply pw_below_drewN | apply below_drew1) | exact HB.out)⟩⟩
                                · rw [if_neg c28] at H
                                  have c28b0 : (((rd_T67 l0 x9_2).f0) == 2) = false := beq_eq_false_iff_ne.mpr c28
                                  have c28b1 : (((rd_T67 l0 x9_2).f0) != 2) = true := bne_iff_ne.mpr c28
                                  have H' := Aside0.mk H
                                  clear H
                                  have p110 : 0 ≤ (x9_2 : Int) := of_decide_eq_true (by first | (with_reducible assumption) | assumption)
                                  have q110 : x9_2 < (l0.length : Int) := of_decide_eq_true (by first | (with_reducible assumption) | assumption)
                                  obtain ⟨ad110, A110_6, c110_6, e110, hx110_0, hx110_1, hx110_2, hx110_3, hx110_4, hx110_5, hx110_6, hx110_7, hl110_6, hi110_6⟩ := at_T67 HR0.out x9_2 p110 q110
                                  obtain rfl : ad107 = ad110 := (by injection e110)
                                  replace hx110_0 := (HB.out.cell (World.block_lt_of_cell? w _ hx110_0)).trans hx110_0
                                  replace hx110_1 := (HB.out.cell (World.block_lt_of_cell? w _ hx110_1)).trans hx110_1
                                  replace hx110_2 := (HB.out.cell (World.block_lt_of_cell? w _ hx110_2)).trans hx110_2
                                  replace hx110_3 := (HB.out.cell (World.block_lt_of_cell? w _ hx110_3)).trans hx110_3
                                  replace hx110_4 := (HB.out.cell (World.block_lt_of_cell? w _ hx110_4)).trans hx110_4
                                  replace hx110_5 := (HB.out.cell (World.block_lt_of_cell? w _ hx110_5)).trans hx110_5
                                  replace hx110_6 := (HB.out.cell (World.block_lt_of_cell? w _ hx110_6)).trans hx110_6
                                  replace hx110_7 := (HB.out.cell (World.block_lt_of_cell? w _ hx110_7)).trans hx110_7
                                  have HR110_6 := Aside0.mk hi110_6
                                  have HC110_6 := Aside0.mk hl110_6
                                  clear hi110_6 hl110_6
                                  replace p110 := eq_true p110
                                  replace q110 := eq_true q110
                                  have p111 : 0 ≤ (x9_2 : Int) := of_decide_eq_true (by first | (with_reducible assumption) | assumption)
                                  have q111 : x9_2 < (l0.length : Int) := of_decide_eq_true (by first | (with_reducible assumption) | assumption)
                                  obtain ⟨ad111, A111_6, c111_6, e111, hx111_0, hx111_1, hx111_2, hx111_3, hx111_4, hx111_5, hx111_6, hx111_7, hl111_6, hi111_6⟩ := at_T67 HR0.out x9_2 p111 q111
                                  obtain rfl : ad107 = ad111 := (by injection e111)
                                  replace hx111_0 := (HB.out.cell (World.block_lt_of_cell? w _ hx111_0)).trans hx111_0
                                  replace hx111_1 := (HB.out.cell (World.block_lt_of_cell? w _ hx111_1)).trans hx111_1
                                  replace hx111_2 := (HB.out.cell (World.block_lt_of_cell? w _ hx111_2)).trans hx111_2
                                  replace hx111_3 := (HB.out.cell (World.block_lt_of_cell? w _ hx111_3)).trans hx111_3
                                  replace hx111_4 := (HB.out.cell (World.block_lt_of_cell? w _ hx111_4)).trans hx111_4
                                  replace hx111_5 := (HB.out.cell (World.block_lt_of_cell? w _ hx111_5)).trans hx111_5
                                  replace hx111_6 := (HB.out.cell (World.block_lt_of_cell? w _ hx111_6)).trans hx111_6
                                  replace hx111_7 := (HB.out.cell (World.block_lt_of_cell? w _ hx111_7)).trans hx111_7
                                  have HR111_6 := Aside0.mk hi111_6
                                  have HC111_6 := Aside0.mk hl111_6
                                  clear hi111_6 hl111_6
                                  replace p111 := eq_true p111
                                  replace q111 := eq_true q111
                                  have ea_ := Option.some.inj (hx110_6.symm.trans hx111_6)
                                  injection ea_ with ea_ en_ ec_
                                  subst ea_
                                  subst ec_
                                  clear en_
                                  go_wp2
                                  go_meet
                                  case rel => exact ⟨_, (false), (by first | rfl | (simp; done) | (simp [*]; done)), H', ⟨by have := HJ5.out; have := HK2.out; have := HJ15.out; first | omega | exact Nat.le_refl _⟩, ⟨by repeat (first | (with_reducible first | exact HB.out | apply below_alloc | apply pw_below_drewN | apply below_drew1) | exact HB.out)⟩⟩
                            · rw [if_neg c26] at H
                              have c26b0 : (t109 == 0) = false := beq_eq_false_iff_ne.mpr c26
                              have c26b1 : (t109 != 0) = true := bne_iff_ne.mpr c26
                              have H' := Aside0.mk H
                              clear H
                              have p110 : 0 ≤ (x9_2 : Int) := of_decide_eq_true (by first | (with_reducible assumption) | assumption)
                              have q110 : x9_2 < (l0.length : Int) := of_decide_eq_true (by first | (with_reducible assumption) | assumption)
                              obtain ⟨ad110, A110_6, c110_6, e110, hx110_0, hx110_1, hx110_2, hx110_3, hx110_4, hx110_5, hx110_6, hx110_7, hl110_6, hi110_6⟩ := at_T67 HR0.out x9_2 p110 q110
                              obtain rfl : ad107 = ad110 := (by injection e110)
                              replace hx110_0 := (HB.out.cell (World.block_lt_of_cell? w _ hx110_0)).trans hx110_0
                              replace hx110_1 := (HB.out.cell (World.block_lt_of_cell? w _ hx110_1)).trans hx110_1
                              replace hx110_2 := (HB.out.cell (World.block_lt_of_cell? w _ hx110_2)).trans hx110_2
                              replace hx110_3 := (HB.out.cell (World.block_lt_of_cell? w _ hx110_3)).trans hx110_3
                              replace hx110_4 := (HB.out.cell (World.block_lt_of_cell? w _ hx110_4)).trans hx110_4
                              replace hx110_5 := (HB.out.cell (World.block_lt_of_cell? w _ hx110_5)).trans hx110_5
                              replace hx110_6 := (HB.out.cell (World.block_lt_of_cell? w _ hx110_6)).trans hx110_6
                              replace hx110_7 := (HB.out.cell (World.block_lt_of_cell? w _ hx110_7)).trans hx110_7
                              have HR110_6 := Aside0.mk hi110_6
                              have HC110_6 := Aside0.mk hl110_6
                              clear hi110_6 hl110_6
                              replace p110 := eq_true p110
                              replace q110 := eq_true q110
                              go_wp2
                              go_meet
                              case rel => exact ⟨_, (true), (by first | rfl | (simp; done) | (simp [*]; done)), H', ⟨by have := HJ5.out; have := HK2.out; have := HJ15.out; first | omega | exact Nat.le_refl _⟩, ⟨by repeat (first | (with_reducible first | exact HB.out | apply below_alloc | apply pw_below_drewN | apply below_drew1) | exact HB.out)⟩⟩
                          · rw [if_neg c25] at H
                            have c25b0 : (((rd_T67 l0 x9_2).f0) == 1) = false := beq_eq_false_iff_ne.mpr c25
                            have c25b1 : (((rd_T67 l0 x9_2).f0) != 1) = true := bne_iff_ne.mpr c25
                            (first | rw [c25b0] | (simp only [i64_w, i32_w]; rw [c25b0]) | skip)
                            by_cases c29 : ((rd_T67 l0 x9_2).f0) = 2
                            · rw [if_pos c29] at H
                              have c29b0 : (((rd_T67 l0 x9_2).f0) == 2) = true := beq_iff_eq.mpr c29
                              have c29b1 : (((rd_T67 l0 x9_2).f0) != 2) = false := bne_eq_false_iff_eq.mpr c29
                              clear c29
                              have H' := Aside0.mk H
                              clear H
                              have p110 : 0 ≤ (x9_2 : Int) := of_decide_eq_true (by first | (with_reducible assumption) | assumption)
                              have q110 : x9_2 < (l0.length : Int) := of_decide_eq_true (by first | (with_reducible assumption) | assumption)
                              obtain ⟨ad110, A110_6, c110_6, e110, hx110_0, hx110_1, hx110_2, hx110_3, hx110_4, hx110_5, hx110_6, hx110_7, hl110_6, hi110_6⟩ := at_T67 HR0.out x9_2 p110 q110
                              obtain rfl : ad107 = ad110 := (by injection e110)
                              replace hx110_0 := (HB.out.cell (World.block_lt_of_cell? w _ hx110_0)).trans hx110_0
                              replace hx110_1 := (HB.out.cell (World.block_lt_of_cell? w _ hx110_1)).trans hx110_1
                              replace hx110_2 := (HB.out.cell (World.block_lt_of_cell? w _ hx110_2)).trans hx110_2
                              replace hx110_3 := (HB.out.cell (World.block_lt_of_cell? w _ hx110_3)).trans hx110_3
                              replace hx110_4 := (HB.out.cell (World.block_lt_of_cell? w _ hx110_4)).trans hx110_4
                              replace hx110_5 := (HB.out.cell (World.block_lt_of_cell? w _ hx110_5)).trans hx110_5
                              replace hx110_6 := (HB.out.cell (World.block_lt_of_cell? w _ hx110_6)).trans hx110_6
                              replace hx110_7 := (HB.out.cell (World.block_lt_of_cell? w _ hx110_7)).trans hx110_7
                              have HR110_6 := Aside0.mk hi110_6
                              have HC110_6 := Aside0.mk hl110_6
                              clear hi110_6 hl110_6
                              replace p110 := eq_true p110
                              replace q110 := eq_true q110
                              have p112 : 0 ≤ (x9_2 : Int) := of_decide_eq_true (by first | (with_reducible assumption) | assumption)
                              have q112 : x9_2 < (l0.length : Int) := of_decide_eq_true (by first | (with_reducible assumption) | assumption)
                              obtain ⟨ad112, A112_6, c112_6, e112, hx112_0, hx112_1, hx112_2, hx112_3, hx112_4, hx112_5, hx112_6, hx112_7, hl112_6, hi112_6⟩ := at_T67 HR0.out x9_2 p112 q112
                              obtain rfl : ad107 = ad112 := (by injection e112)
                              replace hx112_0 := (HB.out.cell (World.block_lt_of_cell? w _ hx112_0)).trans hx112_0
                              replace hx112_1 := (HB.out.cell (World.block_lt_of_cell? w _ hx112_1)).trans hx112_1
                              replace hx112_2 := (HB.out.cell (World.block_lt_of_cell? w _ hx112_2)).trans hx112_2
                              replace hx112_3 := (HB.out.cell (World.block_lt_of_cell? w _ hx112_3)).trans hx112_3
                              replace hx112_4 := (HB.out.cell (World.block_lt_of_cell? w _ hx112_4)).trans hx112_4
                              replace hx112_5 := (HB.out.cell (World.block_lt_of_cell? w _ hx112_5)).trans hx112_5
                              replace hx112_6 := (HB.out.cell (World.block_lt_of_cell? w _ hx112_6)).trans hx112_6
                              replace hx112_7 := (HB.out.cell (World.block_lt_of_cell? w _ hx112_7)).trans hx112_7
                              have HR112_6 := Aside0.mk hi112_6
                              have HC112_6 := Aside0.mk hl112_6
                              clear hi112_6 hl112_6
                              replace p112 := eq_true p112
                              replace q112 := eq_true q112
                              have ea_ := Option.some.inj (hx110_6.symm.trans hx112_6)
                              injection ea_ with ea_ en_ ec_
                              subst ea_
                              subst ec_
                              clear en_
                              go_wp2
                              go_meet
                              case rel => exact ⟨_, (decide (t108 > 20)), (by first | rfl | (simp; done) | (simp [*]; done)), H', ⟨by have := HJ5.out; have := HK2.out; have := HJ15.out; first | omega | exact Nat.le_refl _⟩, ⟨by repeat (first | (with_reducible first | exact HB.out | apply below_alloc | apply pw_below_drewN | apply below_drew1) | exact HB.out)⟩⟩
                            · rw [if_neg c29] at H
                              have c29b0 : (((rd_T67 l0 x9_2).f0) == 2) = false := beq_eq_false_iff_ne.mpr c29
                              have c29b1 : (((rd_T67 l0 x9_2).f0) != 2) = true := bne_iff_ne.mpr c29
                              have H' := Aside0.mk H
                              clear H
                              have p110 : 0 ≤ (x9_2 : Int) := of_decide_eq_true (by first | (with_reducible assumption) | assumption)
                              have q110 : x9_2 < (l0.length : Int) := of_decide_eq_true (by first | (with_reducible assumption) | assumption)
                              obtain ⟨ad110, A110_6, c110_6, e110, hx110_0, hx110_1, hx110_2, hx110_3, hx110_4, hx110_5, hx110_6, hx110_7, hl110_6, hi110_6⟩ := at_T67 HR0.out x9_2 p110 q110
                              obtain rfl : ad107 = ad110 := (by injection e110)
                              replace hx110_0 := (HB.out.cell (World.block_lt_of_cell? w _ hx110_0)).trans hx110_0
                              replace hx110_1 := (HB.out.cell (World.block_lt_of_cell? w _ hx110_1)).trans hx110_1
                              replace hx110_2 := (HB.out.cell (World.block_lt_of_cell? w _ hx110_2)).trans hx110_2
                              replace hx110_3 := (HB.out.cell (World.block_lt_of_cell? w _ hx110_3)).trans hx110_3
                              replace hx110_4 := (HB.out.cell (World.block_lt_of_cell? w _ hx110_4)).trans hx110_4
                              replace hx110_5 := (HB.out.cell (World.block_lt_of_cell? w _ hx110_5)).trans hx110_5
                              replace hx110_6 := (HB.out.cell (World.block_lt_of_cell? w _ hx110_6)).trans hx110_6
                              replace hx110_7 := (HB.out.cell (World.block_lt_of_cell? w _ hx110_7)).trans hx110_7
                              have HR110_6 := Aside0.mk hi110_6
                              have HC110_6 := Aside0.mk hl110_6
                              clear hi110_6 hl110_6
                              replace p110 := eq_true p110
                              replace q110 := eq_true q110
                              have p112 : 0 ≤ (x9_2 : Int) := of_decide_eq_true (by first | (with_reducible assumption) | assumption)
                              have q112 : x9_2 < (l0.length : Int) := of_decide_eq_true (by first | (with_reducible assumption) | assumption)
                              obtain ⟨ad112, A112_6, c112_6, e112, hx112_0, hx112_1, hx112_2, hx112_3, hx112_4, hx112_5, hx112_6, hx112_7, hl112_6, hi112_6⟩ := at_T67 HR0.out x9_2 p112 q112
                              obtain rfl : ad107 = ad112 := (by injection e112)
                              replace hx112_0 := (HB.out.cell (World.block_lt_of_cell? w _ hx112_0)).trans hx112_0
                              replace hx112_1 := (HB.out.cell (World.block_lt_of_cell? w _ hx112_1)).trans hx112_1
                              replace hx112_2 := (HB.out.cell (World.block_lt_of_cell? w _ hx112_2)).trans hx112_2
                              replace hx112_3 := (HB.out.cell (World.block_lt_of_cell? w _ hx112_3)).trans hx112_3
                              replace hx112_4 := (HB.out.cell (World.block_lt_of_cell? w _ hx112_4)).trans hx112_4
                              replace hx112_5 := (HB.out.cell (World.block_lt_of_cell? w _ hx112_5)).trans hx112_5
                              replace hx112_6 := (HB.out.cell (World.block_lt_of_cell? w _ hx112_6)).trans hx112_6
                              replace hx112_7 := (HB.out.cell (World.block_lt_of_cell? w _ hx112_7)).trans hx112_7
                              have HR112_6 := Aside0.mk hi112_6
                              have HC112_6 := Aside0.mk hl112_6
                              clear hi112_6 hl112_6
                              replace p112 := eq_true p112
                              replace q112 := eq_true q112
                              have ea_ := Option.some.inj (hx110_6.symm.trans hx112_6)
                              injection ea_ with ea_ en_ ec_
                              subst ea_
                              subst ec_
                              clear en_
                              go_wp2
                              go_meet
                              case rel => exact ⟨_, (false), (by first | rfl | (simp; done) | (simp [*]; done)), H', ⟨by have := HJ5.out; have := HK2.out; have := HJ15.out; first | omega | exact Nat.le_refl _⟩, ⟨by repeat (first | (with_reducible first | exact HB.out | apply below_alloc | apply pw_below_drewN | apply below_drew1) | exact HB.out)⟩⟩
                        case rest =>
                          clear HC23
                          try clear c1
                          try clear p1
                          try clear q1
                          try clear hx1
                          try clear c2
                          try clear p2
                          try clear c3
                          try clear c9
                          try clear c10
                          try clear p10
                          try clear q10
                          try clear hx10
                          try clear c11
                          try clear p11
                          try clear q11
                          try clear hx11
                          try clear c14
                          try clear c15
                          try clear c15b0
                          try clear c17
                          try clear c17b0
                          try clear c18
                          try clear c18b0
                          try clear c18b1
                          try clear c19
                          try clear c20
                          try clear c20b0
                          try clear c21
                          try clear c21b0
                          try clear c25
                          try clear c25b0
                          try clear c25b1
                          try clear c26
                          try clear c26b0
                          try clear c26b1
                          try clear c27
                          try clear c27b0
                          try clear c27b1
                          try clear c28
                          try clear c28b0
                          try clear c28b1
                          try clear c29
                          try clear c29b0
                          try clear c29b1
                          try clear hx105_0
                          try clear hx105_1
                          try clear hx105_2
                          try clear hx105_3
                          try clear hx105_4
                          try clear hx105_5
                          try clear hx105_6
                          try clear hx105_7
                          try clear hx106_0
                          try clear hx106_1
                          try clear hx106_2
                          try clear hx106_3
                          try clear hx106_4
                          try clear hx106_5
                          try clear hx106_6
                          try clear hx106_7
                          try clear hx107_0
                          try clear hx107_1
                          try clear hx107_2
                          try clear hx107_3
                          try clear hx107_4
                          try clear hx107_5
                          try clear hx107_6
                          try clear hx107_7
                          try clear hx110_0
                          try clear hx110_1
                          try clear hx110_2
                          try clear hx110_3
                          try clear hx110_4
                          try clear hx110_5
                          try clear hx110_6
                          try clear hx110_7
                          try clear hx111_0
                          try clear hx111_1
                          try clear hx111_2
                          try clear hx111_3
                          try clear hx111_4
                          try clear hx111_5
                          try clear hx111_6
                          try clear hx111_7
                          try clear hx112_0
                          try clear hx112_1
                          try clear hx112_2
                          try clear hx112_3
                          try clear hx112_4
                          try clear hx112_5
                          try clear hx112_6
                          try clear hx112_7
                          try clear p1
                          try clear p10
                          try clear p105
                          try clear p106
                          try clear p107
                          try clear p110
                          try clear p111
                          try clear p112
                          try clear p2
                          try clear q1
                          try clear q10
                          try clear q105
                          try clear q106
                          try clear q107
                          try clear q110
                          try clear q111
                          try clear q112
                          obtain ⟨kq, x99_22, rfl, HA, HJ22, HB⟩ := hcut
                          cases kq with
                          | zero => exact absurd HA.out (by simp [malthouselaw11_ProgEnds.j3])
                          | succ kj22 =>
                            have H := HA.out
                            clear HA
                            simp only [malthouselaw11_ProgEnds.j3] at H
                            by_cases c30 : x99_22 = true
                            · subst c30
                              have H1 : (some true) = some r := by rw [if_pos rfl] at H; exact H
                              clear H
                              have H := H1
                              clear H1
                              obtain rfl := Option.some.inj H
                              go_wp2
                              go_ret
                              exact ⟨by first | rfl | (simp [errW_none, errW_some] <;> rfl) | (simp [*, errW_none, errW_some] <;> rfl), by repeat (first | (with_reducible first | exact HB.out | apply below_alloc | apply pw_below_drewN | apply below_drew1) | exact HB.out)⟩
                            · replace c30 := Bool.eq_false_iff.mpr c30
                              subst c30
                              have H1 : (if 0 ≤ x9_2 then (if x9_2 < (l0.length : Int) then (if ((rd_T67 l0 x9_2).f0) = 2 then (if t108 > 0 then (malthouselaw11_ProgEnds.l0 kj22 l0 l1 (wrap64 (x8_2 + t108)) (wrap64 (x9_2 + 1))) else (malthouselaw11_ProgEnds.l0 kj22 l0 l1 x8_2 (wrap64 (x9_2 + 1)))) else (malthouselaw11_ProgEnds.l0 kj22 l0 l1 x8_2 (wrap64 (x9_2 + 1)))) else (none)) else (none)) = some r := by rw [if_neg (show ¬ (false = true) by decide)] at H; exact H
                              clear H
                              have H := H1
                              clear H1
                              by_cases c31 : 0 ≤ x9_2
                              · rw [if_pos c31] at H
                                have c31b0 : decide (0 ≤ x9_2) = true := decide_eq_true c31
                                clear c31
                                by_cases c32 : x9_2 < (l0.length : Int)
                                · rw [if_pos c32] at H
                                  have c32b0 : decide (x9_2 < (l0.length : Int)) = true := decide_eq_true c32
                                  clear c32
                                  by_cases c33 : ((rd_T67 l0 x9_2).f0) = 2
                                  · rw [if_pos c33] at H
                                    have c33b0 : (((rd_T67 l0 x9_2).f0) == 2) = true := beq_iff_eq.mpr c33
                                    have c33b1 : (((rd_T67 l0 x9_2).f0) != 2) = false := bne_eq_false_iff_eq.mpr c33
                                    clear c33
                                    by_cases c34 : t108 > 0
                                    · rw [if_pos c34] at H
                                      have c34b0 : decide (0 < t108) = true := decide_eq_true c34
                                      clear c34
                                      have H' := Aside0.mk H
                                      clear H
                                      have p113 : 0 ≤ (x9_2 : Int) := of_decide_eq_true (by first | (with_reducible assumption) | assumption)
                                      have q113 : x9_2 < (l0.length : Int) := of_decide_eq_true (by first | (with_reducible assumption) | assumption)
                                      obtain ⟨ad113, A113_6, c113_6, e113, hx113_0, hx113_1, hx113_2, hx113_3, hx113_4, hx113_5, hx113_6, hx113_7, hl113_6, hi113_6⟩ := at_T67 HR0.out x9_2 p113 q113
                                      obtain rfl : ad107 = ad113 := (by injection e113)
                                      replace hx113_0 := (HB.out.cell (World.block_lt_of_cell? w _ hx113_0)).trans hx113_0
                                      replace hx113_1 := (HB.out.cell (World.block_lt_of_cell? w _ hx113_1)).trans hx113_1
                                      replace hx113_2 := (HB.out.cell (World.block_lt_of_cell? w _ hx113_2)).trans hx113_2
                                      replace hx113_3 := (HB.out.cell (World.block_lt_of_cell? w _ hx113_3)).trans hx113_3
                                      replace hx113_4 := (HB.out.cell (World.block_lt_of_cell? w _ hx113_4)).trans hx113_4
                                      replace hx113_5 := (HB.out.cell (World.block_lt_of_cell? w _ hx113_5)).trans hx113_5
                                      replace hx113_6 := (HB.out.cell (World.block_lt_of_cell? w _ hx113_6)).trans hx113_6
                                      replace hx113_7 := (HB.out.cell (World.block_lt_of_cell? w _ hx113_7)).trans hx113_7
                                      have HR113_6 := Aside0.mk hi113_6
                                      have HC113_6 := Aside0.mk hl113_6
                                      clear hi113_6 hl113_6
                                      replace p113 := eq_true p113
                                      replace q113 := eq_true q113
                                      go_wp2
                                      go_roundg kj22
                                      case measure => have := HJ5.out; have := HK2.out; have := HJ15.out; have := HJ22.out; omega
                                      case rel => exact ⟨(wrap64 (x8_2 + t108)), (wrap64 (x9_2 + 1)), (by first | rfl | (simp; done) | (simp [*]; done)), (by first | rfl | (simp; done) | (simp [*]; done)), H', ⟨by have := HJ5.out; have := HK2.out; have := HJ15.out; have := HJ22.out; omega⟩, ⟨by repeat (first | (with_reducible first | exact HB.out | apply below_alloc | apply pw_below_drewN | apply below_drew1) | exact HB.out)⟩⟩
                                    · rw [if_neg c34] at H
                                      have c34b0 : decide (0 < t108) = false := decide_eq_false c34
                                      clear c34
                                      have H' := Aside0.mk H
                                      clear H
                                      have p113 : 0 ≤ (x9_2 : Int) := of_decide_eq_true (by first | (with_reducible assumption) | assumption)
                                      have q113 : x9_2 < (l0.length : Int) := of_decide_eq_true (by first | (with_reducible assumption) | assumption)
                                      obtain ⟨ad113, A113_6, c113_6, e113, hx113_0, hx113_1, hx113_2, hx113_3, hx113_4, hx113_5, hx113_6, hx113_7, hl113_6, hi113_6⟩ := at_T67 HR0.out x9_2 p113 q113
                                      obtain rfl : ad107 = ad113 := (by injection e113)
                                      replace hx113_0 := (HB.out.cell (World.block_lt_of_cell? w _ hx113_0)).trans hx113_0
                                      replace hx113_1 := (HB.out.cell (World.block_lt_of_cell? w _ hx113_1)).trans hx113_1
                                      replace hx113_2 := (HB.out.cell (World.block_lt_of_cell? w _ hx113_2)).trans hx113_2
                                      replace hx113_3 := (HB.out.cell (World.block_lt_of_cell? w _ hx113_3)).trans hx113_3
                                      replace hx113_4 := (HB.out.cell (World.block_lt_of_cell? w _ hx113_4)).trans hx113_4
                                      replace hx113_5 := (HB.out.cell (World.block_lt_of_cell? w _ hx113_5)).trans hx113_5
                                      replace hx113_6 := (HB.out.cell (World.block_lt_of_cell? w _ hx113_6)).trans hx113_6
                                      replace hx113_7 := (HB.out.cell (World.block_lt_of_cell? w _ hx113_7)).trans hx113_7
                                      have HR113_6 := Aside0.mk hi113_6
                                      have HC113_6 := Aside0.mk hl113_6
                                      clear hi113_6 hl113_6
                                      replace p113 := eq_true p113
                                      replace q113 := eq_true q113
                                      go_wp2
                                      go_roundg kj22
                                      case measure => have := HJ5.out; have := HK2.out; have := HJ15.out; have := HJ22.out; omega
                                      case rel => exact ⟨(x8_2), (wrap64 (x9_2 + 1)), (by first | rfl | (simp; done) | (simp [*]; done)), (by first | rfl | (simp; done) | (simp [*]; done)), H', ⟨by have := HJ5.out; have := HK2.out; have := HJ15.out; have := HJ22.out; omega⟩, ⟨by repeat (first | (with_reducible first | exact HB.out | apply below_alloc | apply pw_below_drewN | apply below_drew1) | exact HB.out)⟩⟩
                                  · rw [if_neg c33] at H
                                    have c33b0 : (((rd_T67 l0 x9_2).f0) == 2) = false := beq_eq_false_iff_ne.mpr c33
                                    have c33b1 : (((rd_T67 l0 x9_2).f0) != 2) = true := bne_iff_ne.mpr c33
                                    have H' := Aside0.mk H
                                    clear H
                                    have p113 : 0 ≤ (x9_2 : Int) := of_decide_eq_true (by first | (with_reducible assumption) | assumption)
                                    have q113 : x9_2 < (l0.length : Int) := of_decide_eq_true (by first | (with_reducible assumption) | assumption)
                                    obtain ⟨ad113, A113_6, c113_6, e113, hx113_0, hx113_1, hx113_2, hx113_3, hx113_4, hx113_5, hx113_6, hx113_7, hl113_6, hi113_6⟩ := at_T67 HR0.out x9_2 p113 q113
                                    obtain rfl : ad107 = ad113 := (by injection e113)
                                    replace hx113_0 := (HB.out.cell (World.block_lt_of_cell? w _ hx113_0)).trans hx113_0
                                    replace hx113_1 := (HB.out.cell (World.block_lt_of_cell? w _ hx113_1)).trans hx113_1
                                    replace hx113_2 := (HB.out.cell (World.block_lt_of_cell? w _ hx113_2)).trans hx113_2
                                    replace hx113_3 := (HB.out.cell (World.block_lt_of_cell? w _ hx113_3)).trans hx113_3
                                    replace hx113_4 := (HB.out.cell (World.block_lt_of_cell? w _ hx113_4)).trans hx113_4
                                    replace hx113_5 := (HB.out.cell (World.block_lt_of_cell? w _ hx113_5)).trans hx113_5
                                    replace hx113_6 := (HB.out.cell (World.block_lt_of_cell? w _ hx113_6)).trans hx113_6
                                    replace hx113_7 := (HB.out.cell (World.block_lt_of_cell? w _ hx113_7)).trans hx113_7
                                    have HR113_6 := Aside0.mk hi113_6
                                    have HC113_6 := Aside0.mk hl113_6
                                    clear hi113_6 hl113_6
                                    replace p113 := eq_true p113
                                    replace q113 := eq_true q113
                                    go_wp2
                                    go_roundg kj22
                                    case measure => have := HJ5.out; have := HK2.out; have := HJ15.out; have := HJ22.out; omega
                                    case rel => exact ⟨(x8_2), (wrap64 (x9_2 + 1)), (by first | rfl | (simp; done) | (simp [*]; done)), (by first | rfl | (simp; done) | (simp [*]; done)), H', ⟨by have := HJ5.out; have := HK2.out; have := HJ15.out; have := HJ22.out; omega⟩, ⟨by repeat (first | (with_reducible first | exact HB.out | apply below_alloc | apply pw_below_drewN | apply below_drew1) | exact HB.out)⟩⟩
                                · rw [if_neg c32] at H
                                  exact absurd H (by simp)
                              · rw [if_neg c31] at H
                                exact absurd H (by simp)
                      · rw [if_neg c21] at H
                        exact absurd H (by simp)
                    · rw [if_neg c20] at H
                      exact absurd H (by simp)
            · rw [if_neg c15] at H
              have c15b0 : decide (x9_2 < (l0.length : Int)) = false := decide_eq_false c15
              clear c15
              have H' := Aside0.mk H
              clear H
              go_wp2_with (first | ((with_reducible refine gate_dst (N := 12) rfl ?_); (try (refine gate_guard (by rfl) ?_; dsimp only)); refine box_event ?hg (N := 12) ?hd (cs := #[.int .i64 0, .int .i64 0]) (t := 57) ?hr ?_; (case hd => rfl); (case hg => rfl); (case hr => first | (go_simp; done) | (go_simp; rfl)); intro gb114 hg w35 hbox hb; have n0_ := Aside0.mk (below_step (by repeat (first | (with_reducible first | exact HB.out | apply below_alloc | apply pw_below_drewN | apply below_drew1) | exact HB.out)) hb); have n1_ := Aside0.mk (hbox); have n2_ := Aside0.mk ((by rw [hg]; exact (below_size (by repeat (first | (with_reducible first | exact HB.out | apply below_alloc | apply pw_below_drewN | apply below_drew1) | exact HB.out))) : w.heap.size ≤ gb114)); have n3_ := Aside0.mk ((by rw [hg]; exact (below_size (by repeat (first | (with_reducible first | exact HB.out | apply below_alloc | apply pw_below_drewN | apply below_drew1) | exact HB.out))) : w.heap.size ≤ gb114)); clear HB; have HB := n0_; have BK114 := n1_; have GW114 := n2_; have GE114 := n3_; clear n0_ n1_ n2_ n3_; clear hb hbox hg; have hcz36_0 : w35.cell? ⟨gb114, 0, none⟩ = some (.int .i64 0) := (blk_cell BK114.out 0).trans rfl; have hcz36_1 : w35.cell? ⟨gb114, 1, none⟩ = some (.int .i64 0) := (blk_cell BK114.out 1).trans rfl; have hfz36_0 := blk_frozen BK114.out 0; have hfz36_1 := blk_frozen BK114.out 1))
              go_loopg [13, 14] k2 (fun kq v13 v14 w' => ∃ (x13_3 : Bool) (x14_3 : Int) (x115000_3 : Int) (x115001_3 : Int), v13 = .bool x13_3 ∧ v14 = .int .i64 x14_3 ∧ Aside0 (malthouselaw11_ProgEnds.l1 kq l0 l1 x8_2 x13_3 x14_3 x115000_3 x115001_3 = some r) ∧ Aside0 (kq ≤ k2) ∧ Aside0 (w'.heap[gb114]? = some (.cells #[.int .i64 x115000_3, .int .i64 x115001_3] 57 (0, 0))) ∧ Aside0 (Below w.heap.size w w'))
              case atStart => exact ⟨(((l0.length : Int) == 0)), (0), (0), (0), (by first | rfl | (simp; done) | (simp [*]; done)), (by first | rfl | (simp; done) | (simp [*]; done)), H', ⟨Nat.le_refl _⟩, ⟨by (with_reducible repeat (first | refine blk_drewN ?_ _ | refine blk_drew ?_ | refine blk_alloc ?_ _)); refine blk_put (cs := #[.int .i64 0, .int .i64 0]) ?_ 1 _ rfl; (with_reducible repeat (first | refine blk_drewN ?_ _ | refine blk_drew ?_ | refine blk_alloc ?_ _)); refine blk_put (cs := #[.int .i64 0, .int .i64 0]) ?_ 0 _ rfl; (with_reducible repeat (first | refine blk_drewN ?_ _ | refine blk_drew ?_ | refine blk_alloc ?_ _)); exact BK114.out⟩, ⟨by repeat (first | (with_reducible first | exact HB.out | apply below_alloc | apply pw_below_drewN | apply below_drew1 | refine below_set ?_ GE114.out) | exact HB.out)⟩⟩
              case round =>
                clear H'
                try clear c1
                try clear p1
                try clear q1
                try clear hx1
                try clear c2
                try clear p2
                try clear c3
                try clear p6
                try clear c9
                try clear c10
                try clear p10
                try clear q10
                try clear hx10
                try clear c11
                try clear p11
                try clear q11
                try clear hx11
                try clear c14
                try clear c15
                try clear c15b0
                try clear c17
                try clear c17b0
                try clear c18
                try clear c18b0
                try clear c18b1
                try clear c19
                try clear c20
                try clear c20b0
                try clear c21
                try clear c21b0
                try clear c25
                try clear c25b0
                try clear c25b1
                try clear c26
                try clear c26b0
                try clear c26b1
                try clear c27
                try clear c27b0
                try clear c27b1
                try clear c28
                try clear c28b0
                try clear c28b1
                try clear c29
                try clear c29b0
                try clear c29b1
                try clear c30
                try clear c31
                try clear c31b0
                try clear c32
                try clear c32b0
                try clear c33
                try clear c33b0
                try clear c33b1
                try clear c34
                try clear c34b0
                try clear hcz36_0
                try clear hcz36_1
                try clear hfz36_0
                try clear hfz36_1
                try clear hx105_0
                try clear hx105_1
                try clear hx105_2
                try clear hx105_3
                try clear hx105_4
                try clear hx105_5
                try clear hx105_6
                try clear hx105_7
                try clear hx106_0
                try clear hx106_1
                try clear hx106_2
                try clear hx106_3
                try clear hx106_4
                try clear hx106_5
                try clear hx106_6
                try clear hx106_7
                try clear hx107_0
                try clear hx107_1
                try clear hx107_2
                try clear hx107_3
                try clear hx107_4
                try clear hx107_5
                try clear hx107_6
                try clear hx107_7
                try clear hx110_0
                try clear hx110_1
                try clear hx110_2
                try clear hx110_3
                try clear hx110_4
                try clear hx110_5
                try clear hx110_6
                try clear hx110_7
                try clear hx111_0
                try clear hx111_1
                try clear hx111_2
                try clear hx111_3
                try clear hx111_4
                try clear hx111_5
                try clear hx111_6
                try clear hx111_7
                try clear hx112_0
                try clear hx112_1
                try clear hx112_2
                try clear hx112_3
                try clear hx112_4
                try clear hx112_5
                try clear hx112_6
                try clear hx112_7
                try clear hx113_0
                try clear hx113_1
                try clear hx113_2
                try clear hx113_3
                try clear hx113_4
                try clear hx113_5
                try clear hx113_6
                try clear hx113_7
                try clear p1
                try clear p10
                try clear p105
                try clear p106
                try clear p107
                try clear p11
                try clear p110
                try clear p111
                try clear p112
                try clear p113
                try clear p2
                try clear q1
                try clear q10
                try clear q105
                try clear q106
                try clear q107
                try clear q11
                try clear q110
                try clear q111
                try clear q112
                try clear q113
                obtain ⟨x13_3, x14_3, x115000_3, x115001_3, rfl, rfl, HA, HK3, BK114, HB⟩ := hrel
                cases gk with
                | zero => exact absurd HA.out (by simp [malthouselaw11_ProgEnds.l1])
                | succ k3 =>
                  have H := HA.out
                  clear HA
                  simp only [malthouselaw11_ProgEnds.l1] at H
                  have HC37 := Aside0.mk H
                  clear H
                  go_upto_region 20 with (fail)
                  go_cut [123] (fun v123 wc => ∃ (kq : Nat) (x123_36 : Bool), v123 = .bool x123_36 ∧ Aside0 (malthouselaw11_ProgEnds.j5 kq l0 l1 x8_2 x13_3 x14_3 x123_36 x115000_3 x115001_3 = some r) ∧ Aside0 (kq ≤ k3) ∧ Aside0 (wc.heap[gb114]? = some (.cells #[.int .i64 x115000_3, .int .i64 x115001_3] 57 (0, 0))) ∧ Aside0 (Below w.heap.size w wc))
                  case first =>
                    have H := HC37.out
                    clear HC37
                    by_cases c38 : x14_3 < x8_2
                    · rw [if_pos c38] at H
                      have c38b0 : decide (x14_3 < x8_2) = true := decide_eq_true c38
                      clear c38
                      (first | rw [c38b0] | (simp only [i64_w, i32_w]; rw [c38b0]) | skip)
                      have H' := Aside0.mk H
                      clear H
                      go_wp2
                      go_meet
                      case rel => exact ⟨_, (!x13_3), (by first | rfl | (simp; done) | (simp [*]; done)), H', ⟨by have := HJ5.out; have := HK2.out; have := HK3.out; first | omega | exact Nat.le_refl _⟩, ⟨by (with_reducible repeat (first | refine blk_drewN ?_ _ | refine blk_drew ?_ | refine blk_alloc ?_ _)); exact BK114.out⟩, ⟨by repeat (first | (with_reducible first | exact HB.out | apply below_alloc | apply pw_below_drewN | apply below_drew1 | refine below_set ?_ GE114.out) | exact HB.out)⟩⟩
                    · rw [if_neg c38] at H
                      have c38b0 : decide (x14_3 < x8_2) = false := decide_eq_false c38
                      clear c38
                      (first | rw [c38b0] | (simp only [i64_w, i32_w]; rw [c38b0]) | skip)
                      have H' := Aside0.mk H
                      clear H
                      go_wp2
                      go_meet
                      case rel => exact ⟨_, (false), (by first | rfl | (simp; done) | (simp [*]; done)), H', ⟨by have := HJ5.out; have := HK2.out; have := HK3.out; first | omega | exact Nat.le_refl _⟩, ⟨by (with_reducible repeat (first | refine blk_drewN ?_ _ | refine blk_drew ?_ | refine blk_alloc ?_ _)); exact BK114.out⟩, ⟨by repeat (first | (with_reducible first | exact HB.out | apply below_alloc | apply pw_below_drewN | apply below_drew1 | refine below_set ?_ GE114.out) | exact HB.out)⟩⟩
                  case rest =>
                    clear HC37
                    try clear c1
                    try clear p1
                    try clear q1
                    try clear hx1
                    try clear c2
                    try clear p2
                    try clear c3
                    try clear p6
                    try clear c9
                    try clear c10
                    try clear p10
                    try clear q10
                    try clear hx10
                    try clear c11
                    try clear p11
                    try clear q11
                    try clear hx11
                    try clear c14
                    try clear c15
                    try clear c15b0
                    try clear c17
                    try clear c17b0
                    try clear c18
                    try clear c18b0
                    try clear c18b1
                    try clear c19
                    try clear c20
                    try clear c20b0
                    try clear c21
                    try clear c21b0
                    try clear c25
                    try clear c25b0
                    try clear c25b1
                    try clear c26
                    try clear c26b0
                    try clear c26b1
                    try clear c27
                    try clear c27b0
                    try clear c27b1
                    try clear c28
                    try clear c28b0
                    try clear c28b1
                    try clear c29
                    try clear c29b0
                    try clear c29b1
                    try clear c30
                    try clear c31
                    try clear c31b0
                    try clear c32
                    try clear c32b0
                    try clear c33
                    try clear c33b0
                    try clear c33b1
                    try clear c34
                    try clear c34b0
                    try clear c38
                    try clear c38b0
                    try clear hcz36_0
                    try clear hcz36_1
                    try clear hfz36_0
                    try clear hfz36_1
                    try clear hx105_0
                    try clear hx105_1
                    try clear hx105_2
                    try clear hx105_3
                    try clear hx105_4
                    try clear hx105_5
                    try clear hx105_6
                    try clear hx105_7
                    try clear hx106_0
                    try clear hx106_1
                    try clear hx106_2
                    try clear hx106_3
                    try clear hx106_4
                    try clear hx106_5
                    try clear hx106_6
                    try clear hx106_7
                    try clear hx107_0
                    try clear hx107_1
                    try clear hx107_2
                    try clear hx107_3
                    try clear hx107_4
                    try clear hx107_5
                    try clear hx107_6
                    try clear hx107_7
                    try clear hx110_0
                    try clear hx110_1
                    try clear hx110_2
                    try clear hx110_3
                    try clear hx110_4
                    try clear hx110_5
                    try clear hx110_6
                    try clear hx110_7
                    try clear hx111_0
                    try clear hx111_1
                    try clear hx111_2
                    try clear hx111_3
                    try clear hx111_4
                    try clear hx111_5
                    try clear hx111_6
                    try clear hx111_7
                    try clear hx112_0
                    try clear hx112_1
                    try clear hx112_2
                    try clear hx112_3
                    try clear hx112_4
                    try clear hx112_5
                    try clear hx112_6
                    try clear hx112_7
                    try clear hx113_0
                    try clear hx113_1
                    try clear hx113_2
                    try clear hx113_3
                    try clear hx113_4
                    try clear hx113_5
                    try clear hx113_6
                    try clear hx113_7
                    try clear p1
                    try clear p10
                    try clear p105
                    try clear p106
                    try clear p107
                    try clear p11
                    try clear p110
                    try clear p111
                    try clear p112
                    try clear p113
                    try clear p2
                    try clear p6
                    try clear q1
                    try clear q10
                    try clear q105
                    try clear q106
                    try clear q107
                    try clear q11
                    try clear q110
                    try clear q111
                    try clear q112
                    try clear q113
                    obtain ⟨kq, x123_36, rfl, HA, HJ36, BK114, HB⟩ := hcut
                    cases kq with
                    | zero => exact absurd HA.out (by simp [malthouselaw11_ProgEnds.j5])
                    | succ kj36 =>
                      have H := HA.out
                      clear HA
                      simp only [malthouselaw11_ProgEnds.j5] at H
                      by_cases c39 : x123_36 = true
                      · subst c39
                        have H1 : ((prog_Scan.f kj36 l0 x115000_3 x115001_3 l1).bind fun bt115 => (if bt115.2.2.2.2 = 0 then (malthouselaw11_ProgEnds.l1 kj36 l0 l1 x8_2 bt115.2.2.2.1 (wrap64 (x14_3 + 1)) bt115.1 bt115.2.1) else (some true))) = some r := by rw [if_pos rfl] at H; exact H
                        clear H
                        have H := H1
                        clear H1
                        replace H := Option.bind_eq_some_iff.mp H
                        obtain ⟨⟨t115, t116, t117, t120, t121⟩, A400, H⟩ := H
                        replace H : (if t121 = 0 then (malthouselaw11_ProgEnds.l1 kj36 l0 l1 x8_2 t120 (wrap64 (x14_3 + 1)) t115 t116) else (some true)) = some r := H
                        have A40 := Aside0.mk A400
                        clear A400
                        by_cases c41 : t121 = 0
                        · rw [if_pos c41] at H
                          have c41b0 : (t121 == 0) = true := beq_iff_eq.mpr c41
                          have c41b1 : (t121 != 0) = false := bne_eq_false_iff_eq.mpr c41
                          clear c41
                          have H' := Aside0.mk H
                          clear H
                          have hcz42_0 : wc.cell? ⟨gb114, 0, none⟩ = some (.int .i64 x115000_3) := (blk_cell BK114.out 0).trans rfl
                          have hcz42_1 : wc.cell? ⟨gb114, 1, none⟩ = some (.int .i64 x115001_3) := (blk_cell BK114.out 1).trans rfl
                          have hfz42_0 := blk_frozen BK114.out 0
                          have hfz42_1 := blk_frozen BK114.out 1
                          go_wp2_with (first | ((with_reducible refine gate_callee (f := 38) rfl ?_); refine goesL_ (some 130) rfl rfl Tryd.func38 (by kernel_rfl) rfl #[.slice A0 l0.length c0, .agg #[.int .i64 x115000_3, .int .i64 x115001_3], .slice A1 l1.length c1] rfl (by (try simp only [List.map_toArray, List.map_cons, List.map_nil]); first | done | rfl | (simp only [List.length_drop, List.length_take]; rfl)) ?_; (with_reducible refine (prog_Scan.calls kj36 _ _ l0 x115000_3 x115001_3 _ _ l1 t115 t116 t117 t120 t121 _ ?side1 ?side2 ?side3 ?side4 A40.out (by first | exact HT0.out | exact UT.below HT0.out (by repeat (first | (with_reducible first | exact HB.out | apply below_alloc | apply pw_below_drewN | apply below_drew1 | refine below_set ?_ GE114.out) | exact HB.out)))).mono ?_); (case side1 => repeat (first | exact (Kd.C_below HR0.out HB.out) | (with_reducible refine Kd.C_alloc ?_ _) | (with_reducible refine Kd.C_drewN ?_ _) | (with_reducible refine Kd.C_drew ?_))); (case side2 => exact HC0.out); (case side3 => repeat (first | exact (Kd.C_below HR1.out HB.out) | (with_reducible refine Kd.C_alloc ?_ _) | (with_reducible refine Kd.C_drewN ?_ _) | (with_reducible refine Kd.C_drew ?_))); (case side4 => exact HC1.out); rintro e w43 ⟨v118, rfl, ho0, hb⟩; refine ⟨_, rfl, ?_⟩; have n0_ := Aside0.mk (Kd.R_lower ho0 (below_size (by repeat (first | (with_reducible first | exact HB.out | apply below_alloc | apply pw_below_drewN | apply below_drew1 | refine below_set ?_ GE114.out) | exact HB.out)))); have n1_ := Aside0.mk (blk_below (g := gb114) (o := .cells #[.int .i64 x115000_3, .int .i64 x115001_3] 57 (0, 0)) (by (with_reducible repeat (first | refine blk_drewN ?_ _ | refine blk_drew ?_ | refine blk_alloc ?_ _)); exact BK114.out) hb); have n2_ := Aside0.mk (below_step (by repeat (first | (with_reducible first | exact HB.out | apply below_alloc | apply pw_below_drewN | apply below_drew1 | refine below_set ?_ GE114.out) | exact HB.out)) hb); clear BK114; clear HB; have HO119 := n0_; have BK114 := n1_; have HB := n2_; clear n0_ n1_ n2_; (try clear hb); (try clear hb2); (try clear hk); (try clear hi); (try clear ho0)) | ((with_reducible refine gate_dst (N := 15) rfl ?_); (try (refine gate_guard (by rfl) ?_; dsimp only)); refine box_event ?hg (N := 15) ?hd (cs := #[.int .i64 0, .int .i64 0]) (t := 57) ?hr ?_; (case hd => rfl); (case hg => rfl); (case hr => first | (go_simp; done) | (go_simp; rfl)); intro gb122 hg w44 hbox hb; have n0_ := Aside0.mk (Kd.R_below (by (with_reducible repeat (first | apply Kd.R_alloc | apply Kd.R_drewN | apply Kd.R_drew)); exact HO119.out) hb); have n1_ := Aside0.mk (blk_below (g := gb114) (o := .cells #[.int .i64 x115000_3, .int .i64 x115001_3] 57 (0, 0)) (by (with_reducible repeat (first | refine blk_drewN ?_ _ | refine blk_drew ?_ | refine blk_alloc ?_ _)); exact BK114.out) hb); have n2_ := Aside0.mk (below_step (by repeat (first | (with_reducible first | exact HB.out | apply below_alloc | apply pw_below_drewN | apply below_drew1 | refine below_set ?_ GE114.out) | exact HB.out)) hb); have n3_ := Aside0.mk (hbox); have n4_ := Aside0.mk ((by rw [hg]; exact (below_size (by repeat (first | (with_reducible first | exact HB.out | apply below_alloc | apply pw_below_drewN | apply below_drew1 | refine below_set ?_ GE114.out) | exact HB.out))) : w.heap.size ≤ gb122)); have n5_ := Aside0.mk ((by rw [hg]; exact (below_size (by repeat (first | (with_reducible first | exact HB.out | apply below_alloc | apply pw_below_drewN | apply below_drew1 | refine below_set ?_ GE114.out) | exact HB.out))) : w.heap.size ≤ gb122)); have n6_ := Aside0.mk ((by rw [hg]; exact Nat.ne_of_lt (blk_lt (g := gb114) (o := .cells #[.int .i64 x115000_3, .int .i64 x115001_3] 57 (0, 0)) (by (with_reducible repeat (first | refine blk_drewN ?_ _ | refine blk_drew ?_ | refine blk_alloc ?_ _)); exact BK114.out)) : gb114 ≠ gb122)); have n7_ := Aside0.mk ((by rw [hg]; exact Nat.ne_of_gt (blk_lt (g := gb114) (o := .cells #[.int .i64 x115000_3, .int .i64 x115001_3] 57 (0, 0)) (by (with_reducible repeat (first | refine blk_drewN ?_ _ | refine blk_drew ?_ | refine blk_alloc ?_ _)); exact BK114.out)) : gb122 ≠ gb114)); clear HO119; clear BK114; clear HB; have HO119 := n0_; have BK114 := n1_; have HB := n2_; have BK122 := n3_; have GW122 := n4_; have GE122 := n5_; have NB114_122 := n6_; have NB122_114 := n7_; clear n0_ n1_ n2_ n3_ n4_ n5_ n6_ n7_; clear hb hbox hg; have hnb45 := NB122_114.out; have hnc45 := NB114_122.out; have hcz46_0 : w44.cell? ⟨gb122, 0, none⟩ = some (.int .i64 0) := (blk_cell BK122.out 0).trans rfl; have hcz46_1 : w44.cell? ⟨gb122, 1, none⟩ = some (.int .i64 0) := (blk_cell BK122.out 1).trans rfl; have hfz46_0 := blk_frozen BK122.out 0; have hfz46_1 := blk_frozen BK122.out 1; have hcz47_0 : w44.cell? ⟨gb114, 0, none⟩ = some (.int .i64 x115000_3) := (blk_cell BK114.out 0).trans rfl; have hcz47_1 : w44.cell? ⟨gb114, 1, none⟩ = some (.int .i64 x115001_3) := (blk_cell BK114.out 1).trans rfl; have hfz47_0 := blk_frozen BK114.out 0; have hfz47_1 := blk_frozen BK114.out 1))
                          go_roundg kj36
                          case measure => have := HJ5.out; have := HK2.out; have := HK3.out; have := HJ36.out; omega
                          case rel => exact ⟨(t120), (wrap64 (x14_3 + 1)), (t115), (t116), (by first | rfl | (simp; done) | (simp [*]; done)), (by first | rfl | (simp; done) | (simp [*]; done)), H', ⟨by have := HJ5.out; have := HK2.out; have := HK3.out; have := HJ36.out; omega⟩, ⟨by (with_reducible repeat (first | refine blk_drewN ?_ _ | refine blk_drew ?_ | refine blk_alloc ?_ _)); refine blk_put (cs := #[.int .i64 t115, .int .i64 x115001_3]) ?_ 1 _ rfl; (with_reducible repeat (first | refine blk_drewN ?_ _ | refine blk_drew ?_ | refine blk_alloc ?_ _)); refine blk_put (cs := #[.int .i64 x115000_3, .int .i64 x115001_3]) ?_ 0 _ rfl; (with_reducible repeat (first | refine blk_drewN ?_ _ | refine blk_drew ?_ | refine blk_alloc ?_ _)); refine blk_far ?_ NB114_122.out _; (with_reducible repeat (first | refine blk_drewN ?_ _ | refine blk_drew ?_ | refine blk_alloc ?_ _)); refine blk_far ?_ NB114_122.out _; (with_reducible repeat (first | refine blk_drewN ?_ _ | refine blk_drew ?_ | refine blk_alloc ?_ _)); exact BK114.out⟩, ⟨by repeat (first | (with_reducible first | exact HB.out | apply below_alloc | apply pw_below_drewN | apply below_drew1 | refine below_set ?_ GE114.out | refine below_set ?_ GE122.out) | exact HB.out)⟩⟩
                        · rw [if_neg c41] at H
                          have c41b0 : (t121 == 0) = false := beq_eq_false_iff_ne.mpr c41
                          have c41b1 : (t121 != 0) = true := bne_iff_ne.mpr c41
                          first
                          | exact absurd ((Option.some.inj H).trans HRT.out) (by decide)
                          | (obtain rfl := Option.some.inj H
                             have hcz48_0 : wc.cell? ⟨gb114, 0, none⟩ = some (.int .i64 x115000_3) := (blk_cell BK114.out 0).trans rfl
                             have hcz48_1 : wc.cell? ⟨gb114, 1, none⟩ = some (.int .i64 x115001_3) := (blk_cell BK114.out 1).trans rfl
                             have hfz48_0 := blk_frozen BK114.out 0
                             have hfz48_1 := blk_frozen BK114.out 1
                             go_wp2_with (first | ((with_reducible refine gate_callee (f := 38) rfl ?_); refine goesL_ (some 130) rfl rfl Tryd.func38 (by kernel_rfl) rfl #[.slice A0 l0.length c0, .agg #[.int .i64 x115000_3, .int .i64 x115001_3], .slice A1 l1.length c1] rfl (by (try simp only [List.map_toArray, List.map_cons, List.map_nil]); first | done | rfl | (simp only [List.length_drop, List.length_take]; rfl)) ?_; (with_reducible refine (prog_Scan.calls kj36 _ _ l0 x115000_3 x115001_3 _ _ l1 t115 t116 t117 t120 t121 _ ?side1 ?side2 ?side3 ?side4 A40.out (by first | exact HT0.out | exact UT.below HT0.out (by repeat (first | (with_reducible first | exact HB.out | apply below_alloc | apply pw_below_drewN | apply below_drew1 | refine below_set ?_ GE114.out) | exact HB.out)))).mono ?_); (case side1 => repeat (first | exact (Kd.C_below HR0.out HB.out) | (with_reducible refine Kd.C_alloc ?_ _) | (with_reducible refine Kd.C_drewN ?_ _) | (with_reducible refine Kd.C_drew ?_))); (case side2 => exact HC0.out); (case side3 => repeat (first | exact (Kd.C_below HR1.out HB.out) | (with_reducible refine Kd.C_alloc ?_ _) | (with_reducible refine Kd.C_drewN ?_ _) | (with_reducible refine Kd.C_drew ?_))); (case side4 => exact HC1.out); rintro e w49 ⟨v118, rfl, ho0, hb⟩; refine ⟨_, rfl, ?_⟩; have n0_ := Aside0.mk (Kd.R_lower ho0 (below_size (by repeat (first | (with_reducible first | exact HB.out | apply below_alloc | apply pw_below_drewN | apply below_drew1 | refine below_set ?_ GE114.out) | exact HB.out)))); have n1_ := Aside0.mk (blk_below (g := gb114) (o := .cells #[.int .i64 x115000_3, .int .i64 x115001_3] 57 (0, 0)) (by (with_reducible repeat (first | refine blk_drewN ?_ _ | refine blk_drew ?_ | refine blk_alloc ?_ _)); exact BK114.out) hb); have n2_ := Aside0.mk (below_step (by repeat (first | (with_reducible first | exact HB.out | apply below_alloc | apply pw_below_drewN | apply below_drew1 | refine below_set ?_ GE114.out) | exact HB.out)) hb); clear BK114; clear HB; have HO119 := n0_; have BK114 := n1_; have HB := n2_; clear n0_ n1_ n2_; (try clear hb); (try clear hb2); (try clear hk); (try clear hi); (try clear ho0)) | ((with_reducible refine gate_dst (N := 15) rfl ?_); (try (refine gate_guard (by rfl) ?_; dsimp only)); refine box_event ?hg (N := 15) ?hd (cs := #[.int .i64 0, .int .i64 0]) (t := 57) ?hr ?_; (case hd => rfl); (case hg => rfl); (case hr => first | (go_simp; done) | (go_simp; rfl)); intro gb122 hg w50 hbox hb; have n0_ := Aside0.mk (Kd.R_below (by (with_reducible repeat (first | apply Kd.R_alloc | apply Kd.R_drewN | apply Kd.R_drew)); exact HO119.out) hb); have n1_ := Aside0.mk (blk_below (g := gb114) (o := .cells #[.int .i64 x115000_3, .int .i64 x115001_3] 57 (0, 0)) (by (with_reducible repeat (first | refine blk_drewN ?_ _ | refine blk_drew ?_ | refine blk_alloc ?_ _)); exact BK114.out) hb); have n2_ := Aside0.mk (below_step (by repeat (first | (with_reducible first | exact HB.out | apply below_alloc | apply pw_below_drewN | apply below_drew1 | refine below_set ?_ GE114.out) | exact HB.out)) hb); have n3_ := Aside0.mk (hbox); have n4_ := Aside0.mk ((by rw [hg]; exact (below_size (by repeat (first | (with_reducible first | exact HB.out | apply below_alloc | apply pw_below_drewN | apply below_drew1 | refine below_set ?_ GE114.out) | exact HB.out))) : w.heap.size ≤ gb122)); have n5_ := Aside0.mk ((by rw [hg]; exact (below_size (by repeat (first | (with_reducible first | exact HB.out | apply below_alloc | apply pw_below_drewN | apply below_drew1 | refine below_set ?_ GE114.out) | exact HB.out))) : w.heap.size ≤ gb122)); have n6_ := Aside0.mk ((by rw [hg]; exact Nat.ne_of_lt (blk_lt (g := gb114) (o := .cells #[.int .i64 x115000_3, .int .i64 x115001_3] 57 (0, 0)) (by (with_reducible repeat (first | refine blk_drewN ?_ _ | refine blk_drew ?_ | refine blk_alloc ?_ _)); exact BK114.out)) : gb114 ≠ gb122)); have n7_ := Aside0.mk ((by rw [hg]; exact Nat.ne_of_gt (blk_lt (g := gb114) (o := .cells #[.int .i64 x115000_3, .int .i64 x115001_3] 57 (0, 0)) (by (with_reducible repeat (first | refine blk_drewN ?_ _ | refine blk_drew ?_ | refine blk_alloc ?_ _)); exact BK114.out)) : gb122 ≠ gb114)); clear HO119; clear BK114; clear HB; have HO119 := n0_; have BK114 := n1_; have HB := n2_; have BK122 := n3_; have GW122 := n4_; have GE122 := n5_; have NB114_122 := n6_; have NB122_114 := n7_; clear n0_ n1_ n2_ n3_ n4_ n5_ n6_ n7_; clear hb hbox hg; have hnb51 := NB122_114.out; have hnc51 := NB114_122.out; have hcz52_0 : w50.cell? ⟨gb122, 0, none⟩ = some (.int .i64 0) := (blk_cell BK122.out 0).trans rfl; have hcz52_1 : w50.cell? ⟨gb122, 1, none⟩ = some (.int .i64 0) := (blk_cell BK122.out 1).trans rfl; have hfz52_0 := blk_frozen BK122.out 0; have hfz52_1 := blk_frozen BK122.out 1))
                             go_ret
                             exact ⟨by first | rfl | (simp [errW_none, errW_some] <;> rfl) | (simp [*, errW_none, errW_some] <;> rfl), by repeat (first | (with_reducible first | exact HB.out | apply below_alloc | apply pw_below_drewN | apply below_drew1 | refine below_set ?_ GE114.out | refine below_set ?_ GE122.out) | exact HB.out)⟩)
                      · replace c39 := Bool.eq_false_iff.mpr c39
                        subst c39
                        have H1 : (some x13_3) = some r := by rw [if_neg (show ¬ (false = true) by decide)] at H; exact H
                        clear H
                        have H := H1
                        clear H1
                        first
                        | exact absurd ((Option.some.inj H).trans HRT.out) (by decide)
                        | (obtain rfl := Option.some.inj H
                           go_wp2
                           go_ret
                           exact ⟨by first | rfl | (simp [errW_none, errW_some] <;> rfl) | (simp [*, errW_none, errW_some] <;> rfl), by repeat (first | (with_reducible first | exact HB.out | apply below_alloc | apply pw_below_drewN | apply below_drew1 | refine below_set ?_ GE114.out) | exact HB.out)⟩)
end Go.Proofs.YtiaccdaeomaogaaDoor.F
