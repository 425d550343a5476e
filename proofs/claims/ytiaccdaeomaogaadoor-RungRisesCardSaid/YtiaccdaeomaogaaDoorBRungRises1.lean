/- Texts of one claim, slimmed and merged by slim.py. -/
import Derived.Test.YtiaccdaeomaogaaDoorB2
import Derived.Test.YtiaccdaeomaogaaDoorB3
import Derived.Test.YtiaccdaeomaogaaDoorB6
import Derived.Test.YtiaccdaeomaogaaDoorB7
namespace Go.Proofs.YtiaccdaeomaogaaDoor.F
open Go.RowKit Go.Proofs.YtiaccdaeomaogaaDoorW.PrintWords Go.Proofs.YtiaccdaeomaogaaDoorW.PrintLast Go.Proofs.YtiaccdaeomaogaaDoorW.PrintMore
attribute [local go_sem] max2_int min2_int max_two min_two max_three min_three max_four min_four   -- for this text's walks alone
set_option linter.unusedVariables false
set_option linter.unusedSimpArgs false
mutual
def malthouselaw09_RungRises.j0 : Nat → List (S43) → List Bool → List Bool → List (S69) → Bool → Bool → Option (Bool)
  | 0, _, _, _, _, _, _ => none
  | k + 1, x0, x1, x2, x3, x9, x56 => if x56 = true then (some x9) else (malthouselaw09_RungRises.l0 k x0 x1 x2 x3 ([] : List Bool) 0)
def malthouselaw09_RungRises.l0 : Nat → List (S43) → List Bool → List Bool → List (S69) → List Bool → Int → Option (Bool)
  | 0, _, _, _, _, _, _ => none
  | k + 1, x0, x1, x2, x3, x13, x14 => if x14 < (x1.length : Int) then (if 0 ≤ x14 then (if rdOf false x1 x14 = true then (if x13.length < 140737488355328 then (malthouselaw09_RungRises.l0 k x0 x1 x2 x3 (x13 ++ [true]) (wrap64 (x14 + 1))) else (none)) else (if x14 < (x2.length : Int) then (if x13.length < 140737488355328 then (malthouselaw09_RungRises.l0 k x0 x1 x2 x3 (x13 ++ [rdOf false x2 x14]) (wrap64 (x14 + 1))) else (none)) else (none))) else (none)) else ((rung_Run.f k x0 x1 x3).bind fun bt113 => ((rung_Run.f k x0 x13 x3).bind fun bt122 => (if (bt113.1.length : Int) = (bt122.1.length : Int) then (malthouselaw09_RungRises.l1 k bt113.1 bt113.2.1 bt113.2.2 bt122.1 bt122.2.1 bt122.2.2 0) else (some false))))
def malthouselaw09_RungRises.l1 : Nat → List Bool → List ByteArray → List ByteArray → List Bool → List ByteArray → List ByteArray → Int → Option (Bool)
  | 0, _, _, _, _, _, _, _ => none
  | k + 1, x15, x16, x17, x18, x19, x20, x21 => if x21 < (x15.length : Int) then (if 0 ≤ x21 then (if rdOf false x15 x21 = true then (if x21 < (x18.length : Int) then (if rdOf false x18 x21 = true then (malthouselaw09_RungRises.l1 k x15 x16 x17 x18 x19 x20 (wrap64 (x21 + 1))) else (some false)) else (none)) else (malthouselaw09_RungRises.l1 k x15 x16 x17 x18 x19 x20 (wrap64 (x21 + 1)))) else (none)) else (malthouselaw09_RungRises.l2 k x16 x17 x19 x20 0)
def malthouselaw09_RungRises.l2 : Nat → List ByteArray → List ByteArray → List ByteArray → List ByteArray → Int → Option (Bool)
  | 0, _, _, _, _, _ => none
  | k + 1, x16, x17, x19, x20, x22 => if x22 < (x19.length : Int) then (if 0 ≤ x22 then ((malthouseref09_Place.f k x16 (rdOf ByteArray.empty x19 x22)).bind fun t134 => (if t134 < 0 then (some false) else (malthouselaw09_RungRises.l2 k x16 x17 x19 x20 (wrap64 (x22 + 1))))) else (none)) else (malthouselaw09_RungRises.l3 k x17 x20 0)
def malthouselaw09_RungRises.l3 : Nat → List ByteArray → List ByteArray → Int → Option (Bool)
  | 0, _, _, _ => none
  | k + 1, x17, x20, x23 => if x23 < (x20.length : Int) then (if 0 ≤ x23 then ((malthouseref09_Place.f k x17 (rdOf ByteArray.empty x20 x23)).bind fun t136 => (if t136 < 0 then (some false) else (malthouselaw09_RungRises.l3 k x17 x20 (wrap64 (x23 + 1))))) else (none)) else (some true)
end
def malthouselaw09_RungRises.f (k : Nat) (l0 : List (S43)) (l1 : List Bool) (l2 : List Bool) (l3 : List (S69)) : Option (Bool) := (malthouselaw09_awake.f k).bind fun t101 => ((malthouseref09_Light.f k l0).bind fun t102 => ((malthouselaw09_cells.f k l3).bind fun t103 => ((malthouselaw09_plain.f k l0).bind fun t104 => (if t101 = true then (if t102 = true then (if t103 = true then (if t104 = true then (if (l1.length : Int) > 1000 then (malthouselaw09_RungRises.j0 k l0 l1 l2 l3 t101 true) else (malthouselaw09_RungRises.j0 k l0 l1 l2 l3 t101 (decide ((l2.length : Int) < (l1.length : Int))))) else (malthouselaw09_RungRises.j0 k l0 l1 l2 l3 t101 true)) else (malthouselaw09_RungRises.j0 k l0 l1 l2 l3 t101 true)) else (malthouselaw09_RungRises.j0 k l0 l1 l2 l3 t101 true)) else (malthouselaw09_RungRises.j0 k l0 l1 l2 l3 t101 true)))))
theorem malthouselaw09_RungRises.mono_l : ∀ k, (∀ y0 y1 y2 y3 y4 y5, LeO (malthouselaw09_RungRises.j0 k y0 y1 y2 y3 y4 y5) (malthouselaw09_RungRises.j0 (k + 1) y0 y1 y2 y3 y4 y5)) ∧ (∀ y0 y1 y2 y3 y4 y5, LeO (malthouselaw09_RungRises.l0 k y0 y1 y2 y3 y4 y5) (malthouselaw09_RungRises.l0 (k + 1) y0 y1 y2 y3 y4 y5)) ∧ (∀ y0 y1 y2 y3 y4 y5 y6, LeO (malthouselaw09_RungRises.l1 k y0 y1 y2 y3 y4 y5 y6) (malthouselaw09_RungRises.l1 (k + 1) y0 y1 y2 y3 y4 y5 y6)) ∧ (∀ y0 y1 y2 y3 y4, LeO (malthouselaw09_RungRises.l2 k y0 y1 y2 y3 y4) (malthouselaw09_RungRises.l2 (k + 1) y0 y1 y2 y3 y4)) ∧ (∀ y0 y1 y2, LeO (malthouselaw09_RungRises.l3 k y0 y1 y2) (malthouselaw09_RungRises.l3 (k + 1) y0 y1 y2))
  | 0 => ⟨fun _ _ _ _ _ _ r h => by simp [malthouselaw09_RungRises.j0] at h, fun _ _ _ _ _ _ r h => by simp [malthouselaw09_RungRises.l0] at h, fun _ _ _ _ _ _ _ r h => by simp [malthouselaw09_RungRises.l1] at h, fun _ _ _ _ _ r h => by simp [malthouselaw09_RungRises.l2] at h, fun _ _ _ r h => by simp [malthouselaw09_RungRises.l3] at h⟩
  | k + 1 => by
    obtain ⟨ih0, ih1, ih2, ih3, ih4⟩ := malthouselaw09_RungRises.mono_l k
    refine ⟨?_, ?_, ?_, ?_, ?_⟩
    · intro y0 y1 y2 y3 y4 y5
      unfold malthouselaw09_RungRises.j0
      repeat' first
      | (with_reducible exact ih0 _ _ _ _ _ _)
      | (with_reducible exact ih1 _ _ _ _ _ _)
      | (with_reducible exact ih2 _ _ _ _ _ _ _)
      | (with_reducible exact ih3 _ _ _ _ _)
      | (with_reducible exact ih4 _ _ _)
      | (with_reducible exact malthouselaw09_awake.mono _)
      | (with_reducible exact malthouselaw09_cells.mono _ _)
      | (with_reducible exact malthouselaw09_plain.mono _ _)
      | (with_reducible exact malthouseref09_Light.mono _ _)
      | (with_reducible exact malthouseref09_Place.mono _ _ _)
      | (with_reducible exact rung_Run.mono _ _ _ _)
      | (with_reducible exact LeO.refl _)
      | (with_reducible exact LeO.none _)
      | (with_reducible refine LeO.ite ?_ ?_)
      | (with_reducible refine LeO.bind ?_ (fun _ => ?_))
      | exact ih0 _ _ _ _ _ _
      | exact ih1 _ _ _ _ _ _
      | exact ih2 _ _ _ _ _ _ _
      | exact ih3 _ _ _ _ _
      | exact ih4 _ _ _
      | exact malthouselaw09_awake.mono _
      | exact malthouselaw09_cells.mono _ _
      | exact malthouselaw09_plain.mono _ _
      | exact malthouseref09_Light.mono _ _
      | exact malthouseref09_Place.mono _ _ _
      | exact rung_Run.mono _ _ _ _
      | exact LeO.none _
      | refine LeO.ite ?_ ?_
      | refine LeO.bind ?_ (fun _ => ?_)
    · intro y0 y1 y2 y3 y4 y5
      unfold malthouselaw09_RungRises.l0
      repeat' first
      | (with_reducible exact ih0 _ _ _ _ _ _)
      | (with_reducible exact ih1 _ _ _ _ _ _)
      | (with_reducible exact ih2 _ _ _ _ _ _ _)
      | (with_reducible exact ih3 _ _ _ _ _)
      | (with_reducible exact ih4 _ _ _)
      | (with_reducible exact malthouselaw09_awake.mono _)
      | (with_reducible exact malthouselaw09_cells.mono _ _)
      | (with_reducible exact malthouselaw09_plain.mono _ _)
      | (with_reducible exact malthouseref09_Light.mono _ _)
      | (with_reducible exact malthouseref09_Place.mono _ _ _)
      | (with_reducible exact rung_Run.mono _ _ _ _)
      | (with_reducible exact LeO.refl _)
      | (with_reducible exact LeO.none _)
      | (with_reducible refine LeO.ite ?_ ?_)
      | (with_reducible refine LeO.bind ?_ (fun _ => ?_))
      | exact ih0 _ _ _ _ _ _
      | exact ih1 _ _ _ _ _ _
      | exact ih2 _ _ _ _ _ _ _
      | exact ih3 _ _ _ _ _
      | exact ih4 _ _ _
      | exact malthouselaw09_awake.mono _
      | exact malthouselaw09_cells.mono _ _
      | exact malthouselaw09_plain.mono _ _
      | exact malthouseref09_Light.mono _ _
      | exact malthouseref09_Place.mono _ _ _
      | exact rung_Run.mono _ _ _ _
      | exact LeO.none _
      | refine LeO.ite ?_ ?_
      | refine LeO.bind ?_ (fun _ => ?_)
    · intro y0 y1 y2 y3 y4 y5 y6
      unfold malthouselaw09_RungRises.l1
      repeat' first
      | (with_reducible exact ih0 _ _ _ _ _ _)
      | (with_reducible exact ih1 _ _ _ _ _ _)
      | (with_reducible exact ih2 _ _ _ _ _ _ _)
      | (with_reducible exact ih3 _ _ _ _ _)
      | (with_reducible exact ih4 _ _ _)
      | (with_reducible exact malthouselaw09_awake.mono _)
      | (with_reducible exact malthouselaw09_cells.mono _ _)
      | (with_reducible exact malthouselaw09_plain.mono _ _)
      | (with_reducible exact malthouseref09_Light.mono _ _)
      | (with_reducible exact malthouseref09_Place.mono _ _ _)
      | (with_reducible exact rung_Run.mono _ _ _ _)
      | (with_reducible exact LeO.refl _)
      | (with_reducible exact LeO.none _)
      | (with_reducible refine LeO.ite ?_ ?_)
      | (with_reducible refine LeO.bind ?_ (fun _ => ?_))
      | exact ih0 _ _ _ _ _ _
      | exact ih1 _ _ _ _ _ _
      | exact ih2 _ _ _ _ _ _ _
      | exact ih3 _ _ _ _ _
      | exact ih4 _ _ _
      | exact malthouselaw09_awake.mono _
      | exact malthouselaw09_cells.mono _ _
      | exact malthouselaw09_plain.mono _ _
      | exact malthouseref09_Light.mono _ _
      | exact malthouseref09_Place.mono _ _ _
      | exact rung_Run.mono _ _ _ _
      | exact LeO.none _
      | refine LeO.ite ?_ ?_
      | refine LeO.bind ?_ (fun _ => ?_)
    · intro y0 y1 y2 y3 y4
      unfold malthouselaw09_RungRises.l2
      repeat' first
      | (with_reducible exact ih0 _ _ _ _ _ _)
      | (with_reducible exact ih1 _ _ _ _ _ _)
      | (with_reducible exact ih2 _ _ _ _ _ _ _)
      | (with_reducible exact ih3 _ _ _ _ _)
      | (with_reducible exact ih4 _ _ _)
      | (with_reducible exact malthouselaw09_awake.mono _)
      | (with_reducible exact malthouselaw09_cells.mono _ _)
      | (with_reducible exact malthouselaw09_plain.mono _ _)
      | (with_reducible exact malthouseref09_Light.mono _ _)
      | (with_reducible exact malthouseref09_Place.mono _ _ _)
      | (with_reducible exact rung_Run.mono _ _ _ _)
      | (with_reducible exact LeO.refl _)
      | (with_reducible exact LeO.none _)
      | (with_reducible refine LeO.ite ?_ ?_)
      | (with_reducible refine LeO.bind ?_ (fun _ => ?_))
      | exact ih0 _ _ _ _ _ _
      | exact ih1 _ _ _ _ _ _
      | exact ih2 _ _ _ _ _ _ _
      | exact ih3 _ _ _ _ _
      | exact ih4 _ _ _
      | exact malthouselaw09_awake.mono _
      | exact malthouselaw09_cells.mono _ _
      | exact malthouselaw09_plain.mono _ _
      | exact malthouseref09_Light.mono _ _
      | exact malthouseref09_Place.mono _ _ _
      | exact rung_Run.mono _ _ _ _
      | exact LeO.none _
      | refine LeO.ite ?_ ?_
      | refine LeO.bind ?_ (fun _ => ?_)
    · intro y0 y1 y2
      unfold malthouselaw09_RungRises.l3
      repeat' first
      | (with_reducible exact ih0 _ _ _ _ _ _)
      | (with_reducible exact ih1 _ _ _ _ _ _)
      | (with_reducible exact ih2 _ _ _ _ _ _ _)
      | (with_reducible exact ih3 _ _ _ _ _)
      | (with_reducible exact ih4 _ _ _)
      | (with_reducible exact malthouselaw09_awake.mono _)
      | (with_reducible exact malthouselaw09_cells.mono _ _)
      | (with_reducible exact malthouselaw09_plain.mono _ _)
      | (with_reducible exact malthouseref09_Light.mono _ _)
      | (with_reducible exact malthouseref09_Place.mono _ _ _)
      | (with_reducible exact rung_Run.mono _ _ _ _)
      | (with_reducible exact LeO.refl _)
      | (with_reducible exact LeO.none _)
      | (with_reducible refine LeO.ite ?_ ?_)
      | (with_reducible refine LeO.bind ?_ (fun _ => ?_))
      | exact ih0 _ _ _ _ _ _
      | exact ih1 _ _ _ _ _ _
      | exact ih2 _ _ _ _ _ _ _
      | exact ih3 _ _ _ _ _
      | exact ih4 _ _ _
      | exact malthouselaw09_awake.mono _
      | exact malthouselaw09_cells.mono _ _
      | exact malthouselaw09_plain.mono _ _
      | exact malthouseref09_Light.mono _ _
      | exact malthouseref09_Place.mono _ _ _
      | exact rung_Run.mono _ _ _ _
      | exact LeO.none _
      | refine LeO.ite ?_ ?_
      | refine LeO.bind ?_ (fun _ => ?_)
theorem malthouselaw09_RungRises.mono : ∀ a0 a1 a2 a3 k, LeO (malthouselaw09_RungRises.f k a0 a1 a2 a3) (malthouselaw09_RungRises.f (k + 1) a0 a1 a2 a3) := by
  intro a0 a1 a2 a3 k
  obtain ⟨ih0, ih1, ih2, ih3, ih4⟩ := malthouselaw09_RungRises.mono_l k
  unfold malthouselaw09_RungRises.f
  repeat' first
      | (with_reducible exact ih0 _ _ _ _ _ _)
      | (with_reducible exact ih1 _ _ _ _ _ _)
      | (with_reducible exact ih2 _ _ _ _ _ _ _)
      | (with_reducible exact ih3 _ _ _ _ _)
      | (with_reducible exact ih4 _ _ _)
      | (with_reducible exact malthouselaw09_awake.mono _)
      | (with_reducible exact malthouselaw09_cells.mono _ _)
      | (with_reducible exact malthouselaw09_plain.mono _ _)
      | (with_reducible exact malthouseref09_Light.mono _ _)
      | (with_reducible exact malthouseref09_Place.mono _ _ _)
      | (with_reducible exact rung_Run.mono _ _ _ _)
      | (with_reducible exact LeO.refl _)
      | (with_reducible exact LeO.none _)
      | (with_reducible refine LeO.ite ?_ ?_)
      | (with_reducible refine LeO.bind ?_ (fun _ => ?_))
      | exact ih0 _ _ _ _ _ _
      | exact ih1 _ _ _ _ _ _
      | exact ih2 _ _ _ _ _ _ _
      | exact ih3 _ _ _ _ _
      | exact ih4 _ _ _
      | exact malthouselaw09_awake.mono _
      | exact malthouselaw09_cells.mono _ _
      | exact malthouselaw09_plain.mono _ _
      | exact malthouseref09_Light.mono _ _
      | exact malthouseref09_Place.mono _ _ _
      | exact rung_Run.mono _ _ _ _
      | exact LeO.none _
      | refine LeO.ite ?_ ?_
      | refine LeO.bind ?_ (fun _ => ?_)
set_option maxHeartbeats 8000000 in
set_option maxRecDepth 100000 in
theorem malthouselaw09_RungRises.calls (k : Nat) (A0 : Option Addr) (c0 : Nat) (l0 : List (S43)) (A1 : Option Addr) (c1 : Nat) (l1 : List Bool) (A2 : Option Addr) (c2 : Nat) (l2 : List Bool) (A3 : Option Addr) (c3 : Nat) (l3 : List (S69)) (r : Bool) (w : World) (hr0 : Kd.C k43 w A0 l0.length l0) (hc0 : l0.length ≤ c0) (hr1 : Kd.C Kd.bool w A1 l1.length l1) (hc1 : l1.length ≤ c1) (hr2 : Kd.C Kd.bool w A2 l2.length l2) (hc2 : l2.length ≤ c2) (hr3 : Kd.C k69 w A3 l3.length l3) (hc3 : l3.length ≤ c3) (h : malthouselaw09_RungRises.f k l0 l1 l2 l3 = some r) (hT : UT w) (hR : r = true) :
    Calls Tryd.prog 7 #[.slice A0 l0.length c0, .slice A1 l1.length c1, .slice A2 l2.length c2, .slice A3 l3.length c3] w fun e w' => e = .returned (.bool r) ∧ Below w.heap.size w w' := by
  have HT0 := Aside0.mk hT
  clear hT
  have HRT := Aside0.mk hR
  clear hR
  have HR0 := Aside0.mk hr0
  have HC0 := Aside0.mk hc0
  clear hr0 hc0
  have HR1 := Aside0.mk hr1
  have HC1 := Aside0.mk hc1
  clear hr1 hc1
  have HR2 := Aside0.mk hr2
  have HC2 := Aside0.mk hc2
  clear hr2 hc2
  have HR3 := Aside0.mk hr3
  have HC3 := Aside0.mk hc3
  clear hr3 hc3
  have HB := Aside0.mk (Below.refl w.heap.size w)
  have H : ((malthouselaw09_awake.f k).bind fun t101 => ((malthouseref09_Light.f k l0).bind fun t102 => ((malthouselaw09_cells.f k l3).bind fun t103 => ((malthouselaw09_plain.f k l0).bind fun t104 => (if t101 = true then (if t102 = true then (if t103 = true then (if t104 = true then (if (l1.length : Int) > 1000 then (malthouselaw09_RungRises.j0 k l0 l1 l2 l3 t101 true) else (malthouselaw09_RungRises.j0 k l0 l1 l2 l3 t101 (decide ((l2.length : Int) < (l1.length : Int))))) else (malthouselaw09_RungRises.j0 k l0 l1 l2 l3 t101 true)) else (malthouselaw09_RungRises.j0 k l0 l1 l2 l3 t101 true)) else (malthouselaw09_RungRises.j0 k l0 l1 l2 l3 t101 true)) else (malthouselaw09_RungRises.j0 k l0 l1 l2 l3 t101 true)))))) = some r := h
  clear h
  replace H := qi H
  obtain ⟨t101, A5, H⟩ := H
  replace H := qi H
  obtain ⟨t102, A6, H⟩ := H
  replace H := qi H
  obtain ⟨t103, A7, H⟩ := H
  replace H := qi H
  obtain ⟨t104, A8, H⟩ := H
  have HC9 := Aside0.mk H
  clear H
  go_enter Tryd.func7, Tryd.ntmps7
  go_upto_region 5 with (first | ((with_reducible refine gate_callee (f := 19) rfl ?_); refine goesL_ (some 24) rfl rfl Tryd.func19 (by kernel_rfl) rfl #[] rfl qm ?_; (with_reducible refine (malthouselaw09_awake.calls k  t101 _ A5.out (by first | exact HT0.out | exact UT.below HT0.out qb) (malthouselaw09_awake_r A5.out)).mono ?_); rintro e w10 ⟨rfl, hb⟩; refine ⟨_, rfl, ?_⟩; have n0_ := qs hb; clear HB; have HB := n0_; clear n0_; (try clear hb)) | ((with_reducible refine gate_callee (f := 20) rfl ?_); refine goesL_ (some 26) rfl rfl Tryd.func20 (by kernel_rfl) rfl #[.slice A0 l0.length c0] rfl qm ?_; (with_reducible refine (malthouseref09_Light.calls k _ _ l0 t102 _ ?side1 ?side2 A6.out).mono ?_); (case side1 => exact qC HR0.out); (case side2 => exact HC0.out); rintro e w11 ⟨rfl, hb⟩; refine ⟨_, rfl, ?_⟩; have n0_ := qs hb; clear HB; have HB := n0_; clear n0_; (try clear hb)) | ((with_reducible refine gate_callee (f := 27) rfl ?_); refine goesL_ (some 28) rfl rfl Tryd.func27 (by kernel_rfl) rfl #[.slice A3 l3.length c3] rfl qm ?_; (with_reducible refine (malthouselaw09_cells.calls k _ _ l3 t103 _ ?side1 ?side2 A7.out).mono ?_); (case side1 => exact qC HR3.out); (case side2 => exact HC3.out); rintro e w' ⟨rfl, ⟨nd, rfl⟩⟩; refine ⟨_, rfl, ?_⟩) | ((with_reducible refine gate_callee (f := 34) rfl ?_); refine goesL_ (some 30) rfl rfl Tryd.func34 (by kernel_rfl) rfl #[.slice A0 l0.length c0] rfl qm ?_; (with_reducible refine (malthouselaw09_plain.calls k _ _ l0 t104 _ ?side1 ?side2 A8.out).mono ?_); (case side1 => repeat (first | exact (Kd.C_below HR0.out qb) | (with_reducible refine Kd.C_alloc ?_ _) | (with_reducible refine Kd.C_drewN ?_ _) | (with_reducible refine Kd.C_drew ?_))); (case side2 => exact HC0.out); rintro e w' ⟨rfl, ⟨nd, rfl⟩⟩; refine ⟨_, rfl, ?_⟩))
  (try simp only [Act.put, List.setIfInBounds_toArray, List.set_cons_zero, List.set_cons_succ])
  go_cut [56] (fun v56 wc => ∃ (kq : Nat) (x56_8 : Bool), v56 = .bool x56_8 ∧ Aside0 (malthouselaw09_RungRises.j0 kq l0 l1 l2 l3 t101 x56_8 = some r) ∧ Aside0 (kq ≤ k) ∧ Aside0 (Below w.heap.size w wc))
  case first =>
    have H := HC9.out
    clear HC9
    by_cases c12 : t101 = true
    · subst c12
      rw [if_pos rfl] at H
      by_cases c13 : t102 = true
      · subst c13
        rw [if_pos rfl] at H
        by_cases c14 : t103 = true
        · subst c14
          rw [if_pos rfl] at H
          by_cases c15 : t104 = true
          · subst c15
            rw [if_pos rfl] at H
            by_cases c16 : (l1.length : Int) > 1000
            · rw [if_pos c16] at H
              have c16b0 : decide (1000 < (l1.length : Int)) = true := decide_eq_true c16
              have c16b1 : decide (1000 < l1.length) = true := decide_eq_true (by omega)
              clear c16
              (first | rw [c16b0] | (simp only [i64_w, i32_w]; rw [c16b0]) | skip)
              have H' := Aside0.mk H
              clear H
              go_wp2
              go_meet
              case rel => exact ⟨_, (true), qv, H', ql, qB⟩
            · rw [if_neg c16] at H
              have c16b0 : decide (1000 < (l1.length : Int)) = false := decide_eq_false c16
              have c16b1 : decide (1000 < l1.length) = false := decide_eq_false (by omega)
              clear c16
              (first | rw [c16b0] | (simp only [i64_w, i32_w]; rw [c16b0]) | skip)
              have H' := Aside0.mk H
              clear H
              go_wp2
              go_meet
              case rel => exact ⟨_, (decide ((l2.length : Int) < (l1.length : Int))), qv, H', ql, qB⟩
          · replace c15 := Bool.eq_false_iff.mpr c15
            subst c15
            rw [if_neg qf] at H
            have H' := Aside0.mk H
            clear H
            go_wp2
            go_meet
            case rel => exact ⟨_, (true), qv, H', ql, qB⟩
        · replace c14 := Bool.eq_false_iff.mpr c14
          subst c14
          rw [if_neg qf] at H
          have H' := Aside0.mk H
          clear H
          go_wp2
          go_meet
          case rel => exact ⟨_, (true), qv, H', ql, qB⟩
      · replace c13 := Bool.eq_false_iff.mpr c13
        subst c13
        rw [if_neg qf] at H
        have H' := Aside0.mk H
        clear H
        go_wp2
        go_meet
        case rel => exact ⟨_, (true), qv, H', ql, qB⟩
    · replace c12 := Bool.eq_false_iff.mpr c12
      subst c12
      rw [if_neg qf] at H
      have H' := Aside0.mk H
      clear H
      go_wp2
      go_meet
      case rel => exact ⟨_, (true), qv, H', ql, qB⟩
  case rest =>
    clear HC9
    obtain ⟨kq, x56_8, rfl, HA, HJ8, HB⟩ := hcut
    cases kq with
    | zero => exact absurd HA.out (by simp [malthouselaw09_RungRises.j0])
    | succ kj8 =>
      have H := HA.out
      clear HA
      simp only [malthouselaw09_RungRises.j0] at H
      by_cases c17 : x56_8 = true
      · subst c17
        rw [if_pos rfl] at H
        obtain rfl := Option.some.inj H
        go_wp2
        go_ret
        exact qr
      · replace c17 := Bool.eq_false_iff.mpr c17
        subst c17
        rw [if_neg qf] at H
        have H' := Aside0.mk H
        clear H
        go_wp2
        go_loopg [13, 14] kj8 (fun kq v13 v14 w' => ∃ (x13_2 : List Bool) (x14_2 : Int), v14 = .int .i64 x14_2 ∧ Aside0 (malthouselaw09_RungRises.l0 kq l0 l1 l2 l3 x13_2 x14_2 = some r) ∧ Aside0 (kq ≤ kj8) ∧ Aside0 (Kd.R Kd.bool 4 w' w.heap.size (fun _ => True) v13 x13_2) ∧ Aside0 (Below w.heap.size w w'))
        case atStart => exact ⟨(([] : List Bool)), (0), qv, H', ⟨Nat.le_refl _⟩, ⟨by first | exact Kd.R_nil _ _ _ _ _ | exact Kd.N_nil _ _ _ _ _ | exact Kd.V_nil _ _ _ _ _ | exact Kd.Q_nil _ _ _ _ _ | exact Kd.S_nil _ _ _ _ _⟩, qB⟩
        case round =>
          clear H'
          obtain ⟨x13_2, x14_2, rfl, HA, HK2, HO_13, HB⟩ := hrel
          cases gk with
          | zero => exact absurd HA.out (by simp [malthouselaw09_RungRises.l0])
          | succ k2 =>
            have H := HA.out
            clear HA
            simp only [malthouselaw09_RungRises.l0] at H
            by_cases c18 : x14_2 < (l1.length : Int)
            · rw [if_pos c18] at H
              have c18b0 : decide (x14_2 < (l1.length : Int)) = true := decide_eq_true c18
              clear c18
              by_cases c19 : 0 ≤ x14_2
              · rw [if_pos c19] at H
                have c19b0 : decide (0 ≤ x14_2) = true := decide_eq_true c19
                clear c19
                obtain ⟨bq20, hbq20⟩ : ∃ b_ : Bool, b_ = (rdOf false l1 x14_2) := ⟨_, rfl⟩
                replace H : (if bq20 = true then (if x13_2.length < 140737488355328 then (malthouselaw09_RungRises.l0 k2 l0 l1 l2 l3 (x13_2 ++ [true]) (wrap64 (x14_2 + 1))) else (none)) else (if x14_2 < (l2.length : Int) then (if x13_2.length < 140737488355328 then (malthouselaw09_RungRises.l0 k2 l0 l1 l2 l3 (x13_2 ++ [rdOf false l2 x14_2]) (wrap64 (x14_2 + 1))) else (none)) else (none))) = some r := by rw [← hbq20] at H; exact H
                have Nbq20 := Aside0.mk hbq20
                clear hbq20
                by_cases c21 : bq20 = true
                · subst c21
                  rw [if_pos rfl] at H
                  by_cases c22 : x13_2.length < 140737488355328
                  · rw [if_pos c22] at H
                    have LMc22 := Aside0.mk c22
                    clear c22
                    obtain ⟨y106, hy106⟩ : ∃ y_ : List Bool, y_ = (x13_2 ++ [true]) := ⟨_, rfl⟩
                    replace H : (malthouselaw09_RungRises.l0 k2 l0 l1 l2 l3 y106 (wrap64 (x14_2 + 1))) = some r := by first | (rw [hy106]; with_reducible exact H) | (have H2_ := (Option.bind_some _ _).symm.trans H; rw [hy106]; with_reducible exact H2_) | (have H2_ := (Option.bind_some _ _).symm.trans H; with_reducible exact H2_) | with_reducible exact H | (rw [hy106]; exact H) | exact H
                    have Ny106 := Aside0.mk hy106
                    clear hy106
                    have H' := Aside0.mk H
                    clear H
                    have p105 : 0 ≤ (x14_2 : Int) := qa
                    have q105 : x14_2 < (l1.length : Int) := qa
                    obtain ⟨ad105, e105, hx105_0⟩ := Kd.at_bool HR1.out x14_2 p105 q105
                    (try rw [← Nbq20.out] at hx105_0)
                    cases e105
                    replace hx105_0 := qc HB.out hx105_0
                    replace p105 := eq_true p105
                    replace q105 := eq_true q105
                    go_wp2_with (first | ((with_reducible refine gate_builtin (b := .append) (xs := #[.tmp 64, .tmp 75]) rfl ?_); (try (refine gate_guard (by rfl) ?_; dsimp only)); at_builtin; refine Kd.R_append Kd.bool (w0 := w) w.heap.size rfl (.tmp 64) (.tmp 75) 46 4 (.bool false) 1 rfl Tryd.underlying46 info4 rfl (by decide) (by omega) u13 x13_2 true [.bool true] (fun _ => True) (fun _ => False) rfl rfl ?aP (fun _ hk => hk.elim) ?aF ?aO ?aB ?aS ?aL ?_; (case aP => exact rfl); (case aB => exact qb); (case aF => exact (fun _ _ => trivial)); (case aO => exact (by (with_reducible repeat (first | apply Kd.R_alloc | apply Kd.R_drewN | apply Kd.R_drew)); exact HO_13.out)); (case aS => exact (below_size qb)); (case aL => have := LMc22.out; omega); intro v107 w23 ho hb hg hat; rw [← Ny106.out] at ho; have n0_ := Aside0.mk (hb); have n1_ := Aside0.mk (ho); clear HB; clear HO_13; have HB := n0_; have HO108 := n1_; clear n0_ n1_; clear ho hb hg hat))
                    go_roundg k2
                    case measure => have := HJ8.out; have := HK2.out; omega
                    case rel => exact ⟨(y106), (wrap64 (x14_2 + 1)), qv, H', ⟨by have := HJ8.out; have := HK2.out; omega⟩, ⟨by (with_reducible repeat (first | apply Kd.R_alloc | apply Kd.R_drewN | apply Kd.R_drew)); exact HO108.out⟩, qB⟩
                  · rw [if_neg c22] at H
                    exact absurd H (by simp)
                · replace c21 := Bool.eq_false_iff.mpr c21
                  subst c21
                  rw [if_neg qf] at H
                  by_cases c24 : x14_2 < (l2.length : Int)
                  · rw [if_pos c24] at H
                    have c24b0 : decide (x14_2 < (l2.length : Int)) = true := decide_eq_true c24
                    clear c24
                    by_cases c25 : x13_2.length < 140737488355328
                    · rw [if_pos c25] at H
                      have LMc25 := Aside0.mk c25
                      clear c25
                      obtain ⟨y110, hy110⟩ : ∃ y_ : List Bool, y_ = (x13_2 ++ [rdOf false l2 x14_2]) := ⟨_, rfl⟩
                      replace H : (malthouselaw09_RungRises.l0 k2 l0 l1 l2 l3 y110 (wrap64 (x14_2 + 1))) = some r := by first | (rw [hy110]; with_reducible exact H) | (have H2_ := (Option.bind_some _ _).symm.trans H; rw [hy110]; with_reducible exact H2_) | (have H2_ := (Option.bind_some _ _).symm.trans H; with_reducible exact H2_) | with_reducible exact H | (rw [hy110]; exact H) | exact H
                      have Ny110 := Aside0.mk hy110
                      clear hy110
                      have H' := Aside0.mk H
                      clear H
                      have p105 : 0 ≤ (x14_2 : Int) := qa
                      have q105 : x14_2 < (l1.length : Int) := qa
                      obtain ⟨ad105, e105, hx105_0⟩ := Kd.at_bool HR1.out x14_2 p105 q105
                      (try rw [← Nbq20.out] at hx105_0)
                      cases e105
                      replace hx105_0 := qc HB.out hx105_0
                      replace p105 := eq_true p105
                      replace q105 := eq_true q105
                      have p109 : 0 ≤ (x14_2 : Int) := qa
                      have q109 : x14_2 < (l2.length : Int) := qa
                      obtain ⟨ad109, e109, hx109_0⟩ := Kd.at_bool HR2.out x14_2 p109 q109
                      (try rw [← Nbq20.out] at hx109_0)
                      cases e109
                      replace hx109_0 := qc HB.out hx109_0
                      replace p109 := eq_true p109
                      replace q109 := eq_true q109
                      go_wp2_with (first | ((with_reducible refine gate_builtin (b := .append) (xs := #[.tmp 64, .tmp 75]) rfl ?_); (try (refine gate_guard (by rfl) ?_; dsimp only)); at_builtin; refine Kd.R_append Kd.bool (w0 := w) w.heap.size rfl (.tmp 64) (.tmp 75) 46 4 (.bool false) 1 rfl Tryd.underlying46 info4 rfl (by decide) (by omega) u13 x13_2 (rdOf false l2 x14_2) [.bool (rdOf false l2 x14_2)] (fun _ => True) (fun _ => False) rfl rfl ?aP (fun _ hk => hk.elim) ?aF ?aO ?aB ?aS ?aL ?_; (case aP => exact rfl); (case aB => exact qb); (case aF => exact (fun _ _ => trivial)); (case aO => exact (by (with_reducible repeat (first | apply Kd.R_alloc | apply Kd.R_drewN | apply Kd.R_drew)); exact HO_13.out)); (case aS => exact (below_size qb)); (case aL => have := LMc25.out; omega); intro v111 w26 ho hb hg hat; rw [← Ny110.out] at ho; have n0_ := Aside0.mk (hb); have n1_ := Aside0.mk (ho); clear HB; clear HO_13; have HB := n0_; have HO112 := n1_; clear n0_ n1_; clear ho hb hg hat))
                      go_roundg k2
                      case measure => have := HJ8.out; have := HK2.out; omega
                      case rel => exact ⟨(y110), (wrap64 (x14_2 + 1)), qv, H', ⟨by have := HJ8.out; have := HK2.out; omega⟩, ⟨by (with_reducible repeat (first | apply Kd.R_alloc | apply Kd.R_drewN | apply Kd.R_drew)); exact HO112.out⟩, qB⟩
                    · rw [if_neg c25] at H
                      exact absurd H (by simp)
                  · rw [if_neg c24] at H
                    exact absurd H (by simp)
              · rw [if_neg c19] at H
                exact absurd H (by simp)
            · rw [if_neg c18] at H
              have c18b0 : decide (x14_2 < (l1.length : Int)) = false := decide_eq_false c18
              clear c18
              replace H := qi H
              obtain ⟨⟨t113, t114, t115⟩, A27, H⟩ := H
              replace H : ((rung_Run.f k2 l0 x13_2 l3).bind fun bt122 => (if (t113.length : Int) = (bt122.1.length : Int) then (malthouselaw09_RungRises.l1 k2 t113 t114 t115 bt122.1 bt122.2.1 bt122.2.2 0) else (some false))) = some r := H
              replace H := qi H
              obtain ⟨⟨t122, t123, t124⟩, A28, H⟩ := H
              replace H : (if (t113.length : Int) = (t122.length : Int) then (malthouselaw09_RungRises.l1 k2 t113 t114 t115 t122 t123 t124 0) else (some false)) = some r := H
              by_cases c29 : (t113.length : Int) = (t122.length : Int)
              · rw [if_pos c29] at H
                obtain ⟨c29b0, c29b1⟩ := qe c29
                have c29b2 : (t113.length == t122.length) = true := by first | simpa using c29 | (simp at c29 ⊢; omega)
                clear c29
                have H' := Aside0.mk H
                clear H
                go_wp2_with (first | ((with_reducible refine gate_callee (f := 31) rfl ?_); refine goesL_ (some 81) rfl rfl Tryd.func31 (by kernel_rfl) rfl #[.slice A0 l0.length c0, .slice A1 l1.length c1, .slice A3 l3.length c3] rfl qm ?_; (with_reducible refine (rung_Run.calls k2 _ _ l0 _ _ l1 _ _ l3 t113 t114 t115 _ ?side1 ?side2 ?side3 ?side4 ?side5 ?side6 A27.out (by first | exact HT0.out | exact UT.below HT0.out qb)).mono ?_); (case side1 => exact qC HR0.out); (case side2 => exact HC0.out); (case side3 => exact qC HR1.out); (case side4 => exact HC1.out); (case side5 => exact qC HR3.out); (case side6 => exact HC3.out); rintro e w30 ⟨v116, v118, v120, rfl, ho0, ho1, ho2, hb⟩; refine ⟨_, rfl, ?_⟩; have n0_ := Aside0.mk (Kd.R_elder' (by (with_reducible repeat (first | apply Kd.R_alloc | apply Kd.R_drewN | apply Kd.R_drew)); exact HO_13.out) (Kd.R_base ho0) hb); have n1_ := Aside0.mk (Kd.R_lower (Kd.R_new' ho0 (Kd.R_lt (by (with_reducible repeat (first | apply Kd.R_alloc | apply Kd.R_drewN | apply Kd.R_drew)); exact HO_13.out))) (below_size qb)); have n2_ := Aside0.mk (Kd.R_lower ho1 (below_size qb)); have n3_ := Aside0.mk (Kd.R_lower ho2 (below_size qb)); have n4_ := qs hb; clear HO_13; clear HB; have HO_13 := n0_; have HO117 := n1_; have HO119 := n2_; have HO121 := n3_; have HB := n4_; clear n0_ n1_ n2_ n3_ n4_; (try clear hb); (try clear ho0); (try clear ho1); (try clear ho2); obtain ⟨Ao31, co31, eo31⟩ := Kd.R_slice HO_13.out; subst eo31) | ((with_reducible refine gate_callee (f := 31) rfl ?_); refine goesL_ (some 89) rfl rfl Tryd.func31 (by kernel_rfl) rfl #[.slice A0 l0.length c0, .slice Ao31 x13_2.length co31, .slice A3 l3.length c3] rfl qm ?_; (with_reducible refine (rung_Run.calls k2 _ _ l0 _ _ x13_2 _ _ l3 t122 t123 t124 _ ?side1 ?side2 ?side3 ?side4 ?side5 ?side6 A28.out (by first | exact HT0.out | exact UT.below HT0.out qb)).mono ?_); (case side1 => exact qC HR0.out); (case side2 => exact HC0.out); (case side3 => repeat (first | exact (Kd.R_reads' HO_13.out).2.2 | (with_reducible refine Kd.C_alloc ?_ _) | (with_reducible refine Kd.C_drewN ?_ _) | (with_reducible refine Kd.C_drew ?_))); (case side4 => exact (Kd.R_reads' HO_13.out).2.1); (case side5 => exact qC HR3.out); (case side6 => exact HC3.out); rintro e w32 ⟨v125, v127, v129, rfl, ho0, ho1, ho2, hb⟩; refine ⟨_, rfl, ?_⟩; have n0_ := Aside0.mk (Kd.R_elder' (by (with_reducible repeat (first | apply Kd.R_alloc | apply Kd.R_drewN | apply Kd.R_drew)); exact HO_13.out) (Kd.R_base ho0) hb); have n1_ := Aside0.mk (Kd.R_elder' (by (with_reducible repeat (first | apply Kd.R_alloc | apply Kd.R_drewN | apply Kd.R_drew)); exact HO117.out) (Kd.R_base ho0) hb); have n2_ := Aside0.mk (Kd.R_mono (Kd.R_told (Kd.R_told (Kd.R_old (by (with_reducible repeat (first | apply Kd.R_alloc | apply Kd.R_drewN | apply Kd.R_drew)); exact HO119.out) hb) (Kd.R_base ho1)) (Kd.R_base ho2)) (fun _ h_ => h_.1)); have n3_ := Aside0.mk (Kd.R_mono (Kd.R_told (Kd.R_told (Kd.R_old (by (with_reducible repeat (first | apply Kd.R_alloc | apply Kd.R_drewN | apply Kd.R_drew)); exact HO121.out) hb) (Kd.R_base ho1)) (Kd.R_base ho2)) (fun _ h_ => h_.1)); have n4_ := Aside0.mk (Kd.R_lower (Kd.R_new' (Kd.R_new' ho0 (Kd.R_lt (by (with_reducible repeat (first | apply Kd.R_alloc | apply Kd.R_drewN | apply Kd.R_drew)); exact HO_13.out))) (Kd.R_lt (by (with_reducible repeat (first | apply Kd.R_alloc | apply Kd.R_drewN | apply Kd.R_drew)); exact HO117.out))) (below_size qb)); have n5_ := Aside0.mk (Kd.R_lower (Kd.R_new' (Kd.R_new' ho1 (Kd.R_lt (by (with_reducible repeat (first | apply Kd.R_alloc | apply Kd.R_drewN | apply Kd.R_drew)); exact HO119.out))) (Kd.R_lt (by (with_reducible repeat (first | apply Kd.R_alloc | apply Kd.R_drewN | apply Kd.R_drew)); exact HO121.out))) (below_size qb)); have n6_ := Aside0.mk (Kd.R_lower (Kd.R_new' (Kd.R_new' ho2 (Kd.R_lt (by (with_reducible repeat (first | apply Kd.R_alloc | apply Kd.R_drewN | apply Kd.R_drew)); exact HO119.out))) (Kd.R_lt (by (with_reducible repeat (first | apply Kd.R_alloc | apply Kd.R_drewN | apply Kd.R_drew)); exact HO121.out))) (below_size qb)); have n7_ := qs hb; clear HO_13; clear HO117; clear HO119; clear HO121; clear HB; have HO_13 := n0_; have HO117 := n1_; have HO119 := n2_; have HO121 := n3_; have HO126 := n4_; have HO128 := n5_; have HO130 := n6_; have HB := n7_; clear n0_ n1_ n2_ n3_ n4_ n5_ n6_ n7_; (try clear hb); (try clear ho0); (try clear ho1); (try clear ho2); obtain ⟨Ao33, co33, eo33⟩ := Kd.R_slice HO117.out; subst eo33; obtain ⟨Ao34, co34, eo34⟩ := Kd.R_slice HO126.out; subst eo34))
                go_loopg [21] k2 (fun kq v21 w' => ∃ (x21_3 : Int), v21 = .int .i64 x21_3 ∧ Aside0 (malthouselaw09_RungRises.l1 kq t113 t114 t115 t122 t123 t124 x21_3 = some r) ∧ Aside0 (kq ≤ k2) ∧ Aside0 (Kd.R Kd.bool 4 w' w.heap.size (fun k_ => some k_ ≠ ((.slice Ao34 t122.length co34) : Value).ownBlock) (.slice Ao33 t113.length co33) t113) ∧ Aside0 (Kd.R Kd.string 9 w' w.heap.size (fun k_ => some k_ ≠ (v120 : Value).ownBlock ∧ some k_ ≠ (v127 : Value).ownBlock ∧ some k_ ≠ (v129 : Value).ownBlock) v118 t114) ∧ Aside0 (Kd.R Kd.string 9 w' w.heap.size (fun k_ => some k_ ≠ (v118 : Value).ownBlock ∧ some k_ ≠ (v127 : Value).ownBlock ∧ some k_ ≠ (v129 : Value).ownBlock) v120 t115) ∧ Aside0 (Kd.R Kd.bool 4 w' w.heap.size (fun k_ => some k_ ≠ ((.slice Ao33 t113.length co33) : Value).ownBlock) (.slice Ao34 t122.length co34) t122) ∧ Aside0 (Kd.R Kd.string 9 w' w.heap.size (fun k_ => some k_ ≠ (v118 : Value).ownBlock ∧ some k_ ≠ (v120 : Value).ownBlock ∧ some k_ ≠ (v129 : Value).ownBlock) v127 t123) ∧ Aside0 (Kd.R Kd.string 9 w' w.heap.size (fun k_ => some k_ ≠ (v118 : Value).ownBlock ∧ some k_ ≠ (v120 : Value).ownBlock ∧ some k_ ≠ (v127 : Value).ownBlock) v129 t124) ∧ Aside0 (Below w.heap.size w w'))
                case atStart => exact ⟨(0), qv, H', ⟨Nat.le_refl _⟩, ⟨by (with_reducible repeat (first | apply Kd.R_alloc | apply Kd.R_drewN | apply Kd.R_drew)); exact Kd.R_mono HO117.out (fun _ hk => hk.2)⟩, ⟨by (with_reducible repeat (first | apply Kd.R_alloc | apply Kd.R_drewN | apply Kd.R_drew)); exact Kd.R_mono HO119.out (fun _ hk => ⟨hk.1.1, ⟨hk.1.2, hk.2⟩⟩)⟩, ⟨by (with_reducible repeat (first | apply Kd.R_alloc | apply Kd.R_drewN | apply Kd.R_drew)); exact Kd.R_mono HO121.out (fun _ hk => ⟨hk.1.1, ⟨hk.1.2, hk.2⟩⟩)⟩, ⟨by (with_reducible repeat (first | apply Kd.R_alloc | apply Kd.R_drewN | apply Kd.R_drew)); exact Kd.R_mono HO126.out (fun _ hk => hk.2)⟩, ⟨by (with_reducible repeat (first | apply Kd.R_alloc | apply Kd.R_drewN | apply Kd.R_drew)); exact Kd.R_mono HO128.out (fun _ hk => ⟨hk.1.2, ⟨hk.2, hk.1.1⟩⟩)⟩, ⟨by (with_reducible repeat (first | apply Kd.R_alloc | apply Kd.R_drewN | apply Kd.R_drew)); exact Kd.R_mono HO130.out (fun _ hk => ⟨hk.1.2, ⟨hk.2, hk.1.1⟩⟩)⟩, qB⟩
                case round =>
                  clear H'
                  obtain ⟨x21_3, rfl, HA, HK3, HO_15, HO_16, HO_17, HO_18, HO_19, HO_20, HB⟩ := hrel
                  cases gk with
                  | zero => exact absurd HA.out (by simp [malthouselaw09_RungRises.l1])
                  | succ k3 =>
                    have H := HA.out
                    clear HA
                    simp only [malthouselaw09_RungRises.l1] at H
                    by_cases c35 : x21_3 < (t113.length : Int)
                    · rw [if_pos c35] at H
                      have c35b0 : decide (x21_3 < (t113.length : Int)) = true := decide_eq_true c35
                      clear c35
                      by_cases c36 : 0 ≤ x21_3
                      · rw [if_pos c36] at H
                        have c36b0 : decide (0 ≤ x21_3) = true := decide_eq_true c36
                        clear c36
                        obtain ⟨bq37, hbq37⟩ : ∃ b_ : Bool, b_ = (rdOf false t113 x21_3) := ⟨_, rfl⟩
                        replace H : (if bq37 = true then (if x21_3 < (t122.length : Int) then (if rdOf false t122 x21_3 = true then (malthouselaw09_RungRises.l1 k3 t113 t114 t115 t122 t123 t124 (wrap64 (x21_3 + 1))) else (some false)) else (none)) else (malthouselaw09_RungRises.l1 k3 t113 t114 t115 t122 t123 t124 (wrap64 (x21_3 + 1)))) = some r := by rw [← hbq37] at H; exact H
                        have Nbq37 := Aside0.mk hbq37
                        clear hbq37
                        by_cases c38 : bq37 = true
                        · subst c38
                          rw [if_pos rfl] at H
                          by_cases c39 : x21_3 < (t122.length : Int)
                          · rw [if_pos c39] at H
                            have c39b0 : decide (x21_3 < (t122.length : Int)) = true := decide_eq_true c39
                            clear c39
                            obtain ⟨bq40, hbq40⟩ : ∃ b_ : Bool, b_ = (rdOf false t122 x21_3) := ⟨_, rfl⟩
                            replace H : (if bq40 = true then (malthouselaw09_RungRises.l1 k3 t113 t114 t115 t122 t123 t124 (wrap64 (x21_3 + 1))) else (some false)) = some r := by rw [← hbq40] at H; exact H
                            have Nbq40 := Aside0.mk hbq40
                            clear hbq40
                            by_cases c41 : bq40 = true
                            · subst c41
                              rw [if_pos rfl] at H
                              have H' := Aside0.mk H
                              clear H
                              have p131 : 0 ≤ (x21_3 : Int) := qa
                              have q131 : x21_3 < (t113.length : Int) := qa
                              obtain ⟨ad131, e131, hx131_0⟩ := Kd.at_bool (Kd.R_reads' HO_15.out).2.2 x21_3 p131 q131
                              (try rw [← Nbq37.out] at hx131_0)
                              (try rw [← Nbq40.out] at hx131_0)
                              cases e131
                              replace p131 := eq_true p131
                              replace q131 := eq_true q131
                              have p132 : 0 ≤ (x21_3 : Int) := qa
                              have q132 : x21_3 < (t122.length : Int) := qa
                              obtain ⟨ad132, e132, hx132_0⟩ := Kd.at_bool (Kd.R_reads' HO_18.out).2.2 x21_3 p132 q132
                              (try rw [← Nbq37.out] at hx132_0)
                              (try rw [← Nbq40.out] at hx132_0)
                              cases e132
                              replace p132 := eq_true p132
                              replace q132 := eq_true q132
                              go_wp2
                              go_roundg k3
                              case measure => have := HJ8.out; have := HK2.out; have := HK3.out; omega
                              case rel => exact ⟨(wrap64 (x21_3 + 1)), qv, H', ⟨by have := HJ8.out; have := HK2.out; have := HK3.out; omega⟩, ⟨by (with_reducible repeat (first | apply Kd.R_alloc | apply Kd.R_drewN | apply Kd.R_drew)); exact HO_15.out⟩, ⟨by (with_reducible repeat (first | apply Kd.R_alloc | apply Kd.R_drewN | apply Kd.R_drew)); exact HO_16.out⟩, ⟨by (with_reducible repeat (first | apply Kd.R_alloc | apply Kd.R_drewN | apply Kd.R_drew)); exact HO_17.out⟩, ⟨by (with_reducible repeat (first | apply Kd.R_alloc | apply Kd.R_drewN | apply Kd.R_drew)); exact HO_18.out⟩, ⟨by (with_reducible repeat (first | apply Kd.R_alloc | apply Kd.R_drewN | apply Kd.R_drew)); exact HO_19.out⟩, ⟨by (with_reducible repeat (first | apply Kd.R_alloc | apply Kd.R_drewN | apply Kd.R_drew)); exact HO_20.out⟩, qB⟩
                            · replace c41 := Bool.eq_false_iff.mpr c41
                              subst c41
                              rw [if_neg qf] at H
                              exact absurd ((Option.some.inj H).trans HRT.out) (by decide)
                          · rw [if_neg c39] at H
                            exact absurd H (by simp)
                        · replace c38 := Bool.eq_false_iff.mpr c38
                          subst c38
                          rw [if_neg qf] at H
                          have H' := Aside0.mk H
                          clear H
                          have p131 : 0 ≤ (x21_3 : Int) := qa
                          have q131 : x21_3 < (t113.length : Int) := qa
                          obtain ⟨ad131, e131, hx131_0⟩ := Kd.at_bool (Kd.R_reads' HO_15.out).2.2 x21_3 p131 q131
                          (try rw [← Nbq37.out] at hx131_0)
                          cases e131
                          replace p131 := eq_true p131
                          replace q131 := eq_true q131
                          go_wp2
                          go_roundg k3
                          case measure => have := HJ8.out; have := HK2.out; have := HK3.out; omega
                          case rel => exact ⟨(wrap64 (x21_3 + 1)), qv, H', ⟨by have := HJ8.out; have := HK2.out; have := HK3.out; omega⟩, ⟨by (with_reducible repeat (first | apply Kd.R_alloc | apply Kd.R_drewN | apply Kd.R_drew)); exact HO_15.out⟩, ⟨by (with_reducible repeat (first | apply Kd.R_alloc | apply Kd.R_drewN | apply Kd.R_drew)); exact HO_16.out⟩, ⟨by (with_reducible repeat (first | apply Kd.R_alloc | apply Kd.R_drewN | apply Kd.R_drew)); exact HO_17.out⟩, ⟨by (with_reducible repeat (first | apply Kd.R_alloc | apply Kd.R_drewN | apply Kd.R_drew)); exact HO_18.out⟩, ⟨by (with_reducible repeat (first | apply Kd.R_alloc | apply Kd.R_drewN | apply Kd.R_drew)); exact HO_19.out⟩, ⟨by (with_reducible repeat (first | apply Kd.R_alloc | apply Kd.R_drewN | apply Kd.R_drew)); exact HO_20.out⟩, qB⟩
                      · rw [if_neg c36] at H
                        exact absurd H (by simp)
                    · rw [if_neg c35] at H
                      have c35b0 : decide (x21_3 < (t113.length : Int)) = false := decide_eq_false c35
                      clear c35
                      have H' := Aside0.mk H
                      clear H
                      go_wp2
                      go_loopg [22] k3 (fun kq v22 w' => ∃ (x22_4 : Int), v22 = .int .i64 x22_4 ∧ Aside0 (malthouselaw09_RungRises.l2 kq t114 t115 t123 t124 x22_4 = some r) ∧ Aside0 (kq ≤ k3) ∧ Aside0 (Kd.R Kd.string 9 w' w.heap.size (fun k_ => some k_ ≠ (v120 : Value).ownBlock ∧ some k_ ≠ (v127 : Value).ownBlock ∧ some k_ ≠ (v129 : Value).ownBlock) v118 t114) ∧ Aside0 (Kd.R Kd.string 9 w' w.heap.size (fun k_ => some k_ ≠ (v118 : Value).ownBlock ∧ some k_ ≠ (v127 : Value).ownBlock ∧ some k_ ≠ (v129 : Value).ownBlock) v120 t115) ∧ Aside0 (Kd.R Kd.string 9 w' w.heap.size (fun k_ => some k_ ≠ (v118 : Value).ownBlock ∧ some k_ ≠ (v120 : Value).ownBlock ∧ some k_ ≠ (v129 : Value).ownBlock) v127 t123) ∧ Aside0 (Kd.R Kd.string 9 w' w.heap.size (fun k_ => some k_ ≠ (v118 : Value).ownBlock ∧ some k_ ≠ (v120 : Value).ownBlock ∧ some k_ ≠ (v127 : Value).ownBlock) v129 t124) ∧ Aside0 (Below w.heap.size w w'))
                      case atStart => exact ⟨(0), qv, H', ⟨Nat.le_refl _⟩, ⟨by (with_reducible repeat (first | apply Kd.R_alloc | apply Kd.R_drewN | apply Kd.R_drew)); exact HO_16.out⟩, ⟨by (with_reducible repeat (first | apply Kd.R_alloc | apply Kd.R_drewN | apply Kd.R_drew)); exact HO_17.out⟩, ⟨by (with_reducible repeat (first | apply Kd.R_alloc | apply Kd.R_drewN | apply Kd.R_drew)); exact HO_19.out⟩, ⟨by (with_reducible repeat (first | apply Kd.R_alloc | apply Kd.R_drewN | apply Kd.R_drew)); exact HO_20.out⟩, qB⟩
                      case round =>
                        clear H'
                        obtain ⟨x22_4, rfl, HA, HK4, HO_16, HO_17, HO_19, HO_20, HB⟩ := hrel
                        cases gk with
                        | zero => exact absurd HA.out (by simp [malthouselaw09_RungRises.l2])
                        | succ k4 =>
                          have H := HA.out
                          clear HA
                          simp only [malthouselaw09_RungRises.l2] at H
                          by_cases c42 : x22_4 < (t123.length : Int)
                          · rw [if_pos c42] at H
                            have c42b0 : decide (x22_4 < (t123.length : Int)) = true := decide_eq_true c42
                            clear c42
                            by_cases c43 : 0 ≤ x22_4
                            · rw [if_pos c43] at H
                              have c43b0 : decide (0 ≤ x22_4) = true := decide_eq_true c43
                              clear c43
                              replace H := qi H
                              obtain ⟨t134, A44, H⟩ := H
                              by_cases c45 : t134 < 0
                              · rw [if_pos c45] at H
                                have c45b0 : decide (t134 < 0) = true := decide_eq_true c45
                                clear c45
                                obtain rfl := Option.some.inj H
                                obtain ⟨Ao46, co46, eo46⟩ := Kd.R_slice HO_19.out
                                subst eo46
                                have p133 : 0 ≤ (x22_4 : Int) := qa
                                have q133 : x22_4 < (t123.length : Int) := qa
                                obtain ⟨ad133, e133, hx133_0⟩ := Kd.at_string (Kd.R_reads' HO_19.out).2.2 x22_4 p133 q133
                                cases e133
                                replace p133 := eq_true p133
                                replace q133 := eq_true q133
                                obtain ⟨Ao47, co47, eo47⟩ := Kd.R_slice HO_16.out
                                subst eo47
                                go_wp2_with (first | ((with_reducible refine gate_callee (f := 33) rfl ?_); refine goesL_ (some 126) rfl rfl Tryd.func33 (by kernel_rfl) rfl #[.slice Ao47 t114.length co47, .string (rdOf ByteArray.empty t123 x22_4)] rfl qm ?_; (with_reducible refine (malthouseref09_Place.calls k4 _ _ t114 (rdOf ByteArray.empty t123 x22_4) t134 _ ?side1 ?side2 A44.out).mono ?_); (case side1 => repeat (first | exact (Kd.R_reads' HO_16.out).2.2 | (with_reducible refine Kd.C_alloc ?_ _) | (with_reducible refine Kd.C_drewN ?_ _) | (with_reducible refine Kd.C_drew ?_))); (case side2 => exact (Kd.R_reads' HO_16.out).2.1); rintro e w' ⟨rfl, ⟨nd, rfl⟩⟩; refine ⟨_, rfl, ?_⟩))
                                go_ret
                                exact qr
                              · rw [if_neg c45] at H
                                have c45b0 : decide (t134 < 0) = false := decide_eq_false c45
                                clear c45
                                have H' := Aside0.mk H
                                clear H
                                obtain ⟨Ao48, co48, eo48⟩ := Kd.R_slice HO_19.out
                                subst eo48
                                have p133 : 0 ≤ (x22_4 : Int) := qa
                                have q133 : x22_4 < (t123.length : Int) := qa
                                obtain ⟨ad133, e133, hx133_0⟩ := Kd.at_string (Kd.R_reads' HO_19.out).2.2 x22_4 p133 q133
                                cases e133
                                replace p133 := eq_true p133
                                replace q133 := eq_true q133
                                obtain ⟨Ao49, co49, eo49⟩ := Kd.R_slice HO_16.out
                                subst eo49
                                go_wp2_with (first | ((with_reducible refine gate_callee (f := 33) rfl ?_); refine goesL_ (some 126) rfl rfl Tryd.func33 (by kernel_rfl) rfl #[.slice Ao49 t114.length co49, .string (rdOf ByteArray.empty t123 x22_4)] rfl qm ?_; (with_reducible refine (malthouseref09_Place.calls k4 _ _ t114 (rdOf ByteArray.empty t123 x22_4) t134 _ ?side1 ?side2 A44.out).mono ?_); (case side1 => repeat (first | exact (Kd.R_reads' HO_16.out).2.2 | (with_reducible refine Kd.C_alloc ?_ _) | (with_reducible refine Kd.C_drewN ?_ _) | (with_reducible refine Kd.C_drew ?_))); (case side2 => exact (Kd.R_reads' HO_16.out).2.1); rintro e w' ⟨rfl, ⟨nd, rfl⟩⟩; refine ⟨_, rfl, ?_⟩))
                                go_roundg k4
                                case measure => have := HJ8.out; have := HK2.out; have := HK3.out; have := HK4.out; omega
                                case rel => exact ⟨(wrap64 (x22_4 + 1)), qv, H', ⟨by have := HJ8.out; have := HK2.out; have := HK3.out; have := HK4.out; omega⟩, ⟨by (with_reducible repeat (first | apply Kd.R_alloc | apply Kd.R_drewN | apply Kd.R_drew)); exact HO_16.out⟩, ⟨by (with_reducible repeat (first | apply Kd.R_alloc | apply Kd.R_drewN | apply Kd.R_drew)); exact HO_17.out⟩, ⟨by (with_reducible repeat (first | apply Kd.R_alloc | apply Kd.R_drewN | apply Kd.R_drew)); exact HO_19.out⟩, ⟨by (with_reducible repeat (first | apply Kd.R_alloc | apply Kd.R_drewN | apply Kd.R_drew)); exact HO_20.out⟩, qB⟩
                            · rw [if_neg c43] at H
                              exact absurd H (by simp)
                          · rw [if_neg c42] at H
                            have c42b0 : decide (x22_4 < (t123.length : Int)) = false := decide_eq_false c42
                            clear c42
                            have H' := Aside0.mk H
                            clear H
                            obtain ⟨Ao50, co50, eo50⟩ := Kd.R_slice HO_19.out
                            subst eo50
                            go_wp2
                            go_loopg [23] k4 (fun kq v23 w' => ∃ (x23_5 : Int), v23 = .int .i64 x23_5 ∧ Aside0 (malthouselaw09_RungRises.l3 kq t115 t124 x23_5 = some r) ∧ Aside0 (kq ≤ k4) ∧ Aside0 (Kd.R Kd.string 9 w' w.heap.size (fun k_ => some k_ ≠ (v129 : Value).ownBlock) v120 t115) ∧ Aside0 (Kd.R Kd.string 9 w' w.heap.size (fun k_ => some k_ ≠ (v120 : Value).ownBlock) v129 t124) ∧ Aside0 (Below w.heap.size w w'))
                            case atStart => exact ⟨(0), qv, H', ⟨Nat.le_refl _⟩, ⟨by (with_reducible repeat (first | apply Kd.R_alloc | apply Kd.R_drewN | apply Kd.R_drew)); exact Kd.R_mono HO_17.out (fun _ hk => hk.2.2)⟩, ⟨by (with_reducible repeat (first | apply Kd.R_alloc | apply Kd.R_drewN | apply Kd.R_drew)); exact Kd.R_mono HO_20.out (fun _ hk => hk.2.1)⟩, qB⟩
                            case round =>
                              clear H'
                              obtain ⟨x23_5, rfl, HA, HK5, HO_17, HO_20, HB⟩ := hrel
                              cases gk with
                              | zero => exact absurd HA.out (by simp [malthouselaw09_RungRises.l3])
                              | succ k5 =>
                                have H := HA.out
                                clear HA
                                simp only [malthouselaw09_RungRises.l3] at H
                                by_cases c51 : x23_5 < (t124.length : Int)
                                · rw [if_pos c51] at H
                                  have c51b0 : decide (x23_5 < (t124.length : Int)) = true := decide_eq_true c51
                                  clear c51
                                  by_cases c52 : 0 ≤ x23_5
                                  · rw [if_pos c52] at H
                                    have c52b0 : decide (0 ≤ x23_5) = true := decide_eq_true c52
                                    clear c52
                                    replace H := qi H
                                    obtain ⟨t136, A53, H⟩ := H
                                    by_cases c54 : t136 < 0
                                    · rw [if_pos c54] at H
                                      have c54b0 : decide (t136 < 0) = true := decide_eq_true c54
                                      clear c54
                                      obtain rfl := Option.some.inj H
                                      obtain ⟨Ao55, co55, eo55⟩ := Kd.R_slice HO_20.out
                                      subst eo55
                                      have p135 : 0 ≤ (x23_5 : Int) := qa
                                      have q135 : x23_5 < (t124.length : Int) := qa
                                      obtain ⟨ad135, e135, hx135_0⟩ := Kd.at_string (Kd.R_reads' HO_20.out).2.2 x23_5 p135 q135
                                      cases e135
                                      replace p135 := eq_true p135
                                      replace q135 := eq_true q135
                                      obtain ⟨Ao56, co56, eo56⟩ := Kd.R_slice HO_17.out
                                      subst eo56
                                      go_wp2_with (first | ((with_reducible refine gate_callee (f := 33) rfl ?_); refine goesL_ (some 139) rfl rfl Tryd.func33 (by kernel_rfl) rfl #[.slice Ao56 t115.length co56, .string (rdOf ByteArray.empty t124 x23_5)] rfl qm ?_; (with_reducible refine (malthouseref09_Place.calls k5 _ _ t115 (rdOf ByteArray.empty t124 x23_5) t136 _ ?side1 ?side2 A53.out).mono ?_); (case side1 => repeat (first | exact (Kd.R_reads' HO_17.out).2.2 | (with_reducible refine Kd.C_alloc ?_ _) | (with_reducible refine Kd.C_drewN ?_ _) | (with_reducible refine Kd.C_drew ?_))); (case side2 => exact (Kd.R_reads' HO_17.out).2.1); rintro e w' ⟨rfl, ⟨nd, rfl⟩⟩; refine ⟨_, rfl, ?_⟩))
                                      go_ret
                                      exact qr
                                    · rw [if_neg c54] at H
                                      have c54b0 : decide (t136 < 0) = false := decide_eq_false c54
                                      clear c54
                                      have H' := Aside0.mk H
                                      clear H
                                      obtain ⟨Ao57, co57, eo57⟩ := Kd.R_slice HO_20.out
                                      subst eo57
                                      have p135 : 0 ≤ (x23_5 : Int) := qa
                                      have q135 : x23_5 < (t124.length : Int) := qa
                                      obtain ⟨ad135, e135, hx135_0⟩ := Kd.at_string (Kd.R_reads' HO_20.out).2.2 x23_5 p135 q135
                                      cases e135
                                      replace p135 := eq_true p135
                                      replace q135 := eq_true q135
                                      obtain ⟨Ao58, co58, eo58⟩ := Kd.R_slice HO_17.out
                                      subst eo58
                                      go_wp2_with (first | ((with_reducible refine gate_callee (f := 33) rfl ?_); refine goesL_ (some 139) rfl rfl Tryd.func33 (by kernel_rfl) rfl #[.slice Ao58 t115.length co58, .string (rdOf ByteArray.empty t124 x23_5)] rfl qm ?_; (with_reducible refine (malthouseref09_Place.calls k5 _ _ t115 (rdOf ByteArray.empty t124 x23_5) t136 _ ?side1 ?side2 A53.out).mono ?_); (case side1 => repeat (first | exact (Kd.R_reads' HO_17.out).2.2 | (with_reducible refine Kd.C_alloc ?_ _) | (with_reducible refine Kd.C_drewN ?_ _) | (with_reducible refine Kd.C_drew ?_))); (case side2 => exact (Kd.R_reads' HO_17.out).2.1); rintro e w' ⟨rfl, ⟨nd, rfl⟩⟩; refine ⟨_, rfl, ?_⟩))
                                      go_roundg k5
                                      case measure => have := HJ8.out; have := HK2.out; have := HK3.out; have := HK4.out; have := HK5.out; omega
                                      case rel => exact ⟨(wrap64 (x23_5 + 1)), qv, H', ⟨by have := HJ8.out; have := HK2.out; have := HK3.out; have := HK4.out; have := HK5.out; omega⟩, ⟨by (with_reducible repeat (first | apply Kd.R_alloc | apply Kd.R_drewN | apply Kd.R_drew)); exact HO_17.out⟩, ⟨by (with_reducible repeat (first | apply Kd.R_alloc | apply Kd.R_drewN | apply Kd.R_drew)); exact HO_20.out⟩, qB⟩
                                  · rw [if_neg c52] at H
                                    exact absurd H (by simp)
                                · rw [if_neg c51] at H
                                  have c51b0 : decide (x23_5 < (t124.length : Int)) = false := decide_eq_false c51
                                  clear c51
                                  obtain rfl := Option.some.inj H
                                  obtain ⟨Ao59, co59, eo59⟩ := Kd.R_slice HO_20.out
                                  subst eo59
                                  go_wp2
                                  go_ret
                                  exact qr
              · rw [if_neg c29] at H
                obtain ⟨c29b0, c29b1⟩ := qd c29
                have c29b2 : (t113.length == t122.length) = false := by first | simpa using c29 | (simp at c29 ⊢; omega)
                exact absurd ((Option.some.inj H).trans HRT.out) (by decide)
end Go.Proofs.YtiaccdaeomaogaaDoor.F
