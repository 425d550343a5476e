/- Texts of one claim, slimmed and merged by slim.py. -/
import Derived.Test.YtiaccdaeomaogaaDoorB2
import Derived.Test.YtiaccdaeomaogaaDoorB3
import Derived.Test.YtiaccdaeomaogaaDoorB6
import Derived.Test.YtiaccdaeomaogaaDoorB7
namespace Go.Proofs.YtiaccdaeomaogaaDoor.F
open Go.RowKit Go.Proofs.YtiaccdaeomaogaaDoorW.PrintWords Go.Proofs.YtiaccdaeomaogaaDoorW.PrintLast Go.Proofs.YtiaccdaeomaogaaDoorW.PrintMore
attribute [local go_sem] max2_int min2_int max_two min_two max_three min_three max_four min_four   -- for this text's walks alone
set_option linter.unusedVariables false
set_option linter.unusedSimpArgs false
mutual
def malthouselaw09_RungBehind.j0 : Nat → List (S43) → List Bool → List (S69) → Bool → List (S43) → Bool → Option (Bool)
  | 0, _, _, _, _, _, _ => none
  | k + 1, x0, x2, x3, x9, x10, x56 => if x56 = true then (some x9) else ((rung_Run.f k x0 x2 x3).bind fun bt114 => ((rung_Run.f k x10 x2 x3).bind fun bt123 => (if (bt123.1.length : Int) = 0 then (malthouselaw09_RungBehind.j1 k bt114.1 bt114.2.1 bt114.2.2 bt123.1 bt123.2.1 bt123.2.2 ((wrap64 ((bt123.2.1.length : Int) + (bt123.2.2.length : Int))) == 0)) else (malthouselaw09_RungBehind.j1 k bt114.1 bt114.2.1 bt114.2.2 bt123.1 bt123.2.1 bt123.2.2 false))))
def malthouselaw09_RungBehind.j1 : Nat → List Bool → List ByteArray → List ByteArray → List Bool → List ByteArray → List ByteArray → Bool → Option (Bool)
  | 0, _, _, _, _, _, _, _ => none
  | k + 1, x13, x14, x15, x16, x17, x18, x84 => if x84 = true then (some true) else (if (x17.length : Int) < (x14.length : Int) then (malthouselaw09_RungBehind.j2 k x13 x14 x15 x16 x17 x18 true) else (if (x18.length : Int) < (x15.length : Int) then (malthouselaw09_RungBehind.j2 k x13 x14 x15 x16 x17 x18 true) else (malthouselaw09_RungBehind.j2 k x13 x14 x15 x16 x17 x18 (decide ((wrap64 ((x17.length : Int) + (x18.length : Int))) > (wrap64 ((wrap64 ((x14.length : Int) + (x15.length : Int))) + 1)))))))
def malthouselaw09_RungBehind.j2 : Nat → List Bool → List ByteArray → List ByteArray → List Bool → List ByteArray → List ByteArray → Bool → Option (Bool)
  | 0, _, _, _, _, _, _, _ => none
  | k + 1, x13, x14, x15, x16, x17, x18, x110 => if x110 = true then (some false) else ((malthouseref09_Bools.f k x13 x16).bind fun t132 => (if 0 ≤ (x14.length : Int) then (if (x14.length : Int) ≤ (x17.length : Int) then ((malthouseref09_Texts.f k (x17.take ((x14.length : Int) : Int).toNat) x14).bind fun t138 => (if 0 ≤ (x15.length : Int) then (if (x15.length : Int) ≤ (x18.length : Int) then ((malthouseref09_Texts.f k (x18.take ((x15.length : Int) : Int).toNat) x15).bind fun t144 => (if t132 = true then (if t138 = true then (some t144) else (some false)) else (some false))) else (none)) else (none))) else (none)) else (none)))
end
def malthouselaw09_RungBehind.f (k : Nat) (l0 : List (S43)) (a1_0 : Int) (a1_1 : ByteArray) (l1_2 : List (S40)) (l2 : List Bool) (l3 : List (S69)) : Option (Bool) := (malthouselaw09_awake.f k).bind fun t102 => (if ([] : List (S43)).length + l0.length < 2932031007402 then ((some (([] : List (S43)) ++ l0 : List (S43))).bind fun y103 => ((some (([(⟨a1_0, a1_1, l1_2⟩ : S43)] : List (S43)) : List (S43))).bind fun y106 => (if y103.length + y106.length < 2932031007402 then ((some (y103 ++ y106 : List (S43))).bind fun y109 => ((malthouseref09_Light.f k y109).bind fun t112 => ((malthouselaw09_cells.f k l3).bind fun t113 => (if t102 = true then (if t112 = true then (if t113 = true then (if (l2.length : Int) > 1000 then (malthouselaw09_RungBehind.j0 k l0 l2 l3 t102 y109 true) else (if a1_0 = 3 then (malthouselaw09_RungBehind.j0 k l0 l2 l3 t102 y109 false) else (malthouselaw09_RungBehind.j0 k l0 l2 l3 t102 y109 (a1_0 != 4)))) else (malthouselaw09_RungBehind.j0 k l0 l2 l3 t102 y109 true)) else (malthouselaw09_RungBehind.j0 k l0 l2 l3 t102 y109 true)) else (malthouselaw09_RungBehind.j0 k l0 l2 l3 t102 y109 true))))) else (none)))) else (none))
theorem malthouselaw09_RungBehind.mono_l : ∀ k, (∀ y0 y1 y2 y3 y4 y5, LeO (malthouselaw09_RungBehind.j0 k y0 y1 y2 y3 y4 y5) (malthouselaw09_RungBehind.j0 (k + 1) y0 y1 y2 y3 y4 y5)) ∧ (∀ y0 y1 y2 y3 y4 y5 y6, LeO (malthouselaw09_RungBehind.j1 k y0 y1 y2 y3 y4 y5 y6) (malthouselaw09_RungBehind.j1 (k + 1) y0 y1 y2 y3 y4 y5 y6)) ∧ (∀ y0 y1 y2 y3 y4 y5 y6, LeO (malthouselaw09_RungBehind.j2 k y0 y1 y2 y3 y4 y5 y6) (malthouselaw09_RungBehind.j2 (k + 1) y0 y1 y2 y3 y4 y5 y6))
  | 0 => ⟨fun _ _ _ _ _ _ r h => by simp [malthouselaw09_RungBehind.j0] at h, fun _ _ _ _ _ _ _ r h => by simp [malthouselaw09_RungBehind.j1] at h, fun _ _ _ _ _ _ _ r h => by simp [malthouselaw09_RungBehind.j2] at h⟩
  | k + 1 => by
    obtain ⟨ih0, ih1, ih2⟩ := malthouselaw09_RungBehind.mono_l k
    refine ⟨?_, ?_, ?_⟩
    · intro y0 y1 y2 y3 y4 y5
      unfold malthouselaw09_RungBehind.j0
      repeat' first
      | (with_reducible exact ih0 _ _ _ _ _ _)
      | (with_reducible exact ih1 _ _ _ _ _ _ _)
      | (with_reducible exact ih2 _ _ _ _ _ _ _)
      | (with_reducible exact malthouselaw09_awake.mono _)
      | (with_reducible exact malthouselaw09_cells.mono _ _)
      | (with_reducible exact malthouseref09_Bools.mono _ _ _)
      | (with_reducible exact malthouseref09_Light.mono _ _)
      | (with_reducible exact malthouseref09_Texts.mono _ _ _)
      | (with_reducible exact rung_Run.mono _ _ _ _)
      | (with_reducible exact LeO.refl _)
      | (with_reducible exact LeO.none _)
      | (with_reducible refine LeO.ite ?_ ?_)
      | (with_reducible refine LeO.bind ?_ (fun _ => ?_))
      | exact ih0 _ _ _ _ _ _
      | exact ih1 _ _ _ _ _ _ _
      | exact ih2 _ _ _ _ _ _ _
      | exact malthouselaw09_awake.mono _
      | exact malthouselaw09_cells.mono _ _
      | exact malthouseref09_Bools.mono _ _ _
      | exact malthouseref09_Light.mono _ _
      | exact malthouseref09_Texts.mono _ _ _
      | exact rung_Run.mono _ _ _ _
      | exact LeO.none _
      | refine LeO.ite ?_ ?_
      | refine LeO.bind ?_ (fun _ => ?_)
    · intro y0 y1 y2 y3 y4 y5 y6
      unfold malthouselaw09_RungBehind.j1
      repeat' first
      | (with_reducible exact ih0 _ _ _ _ _ _)
      | (with_reducible exact ih1 _ _ _ _ _ _ _)
      | (with_reducible exact ih2 _ _ _ _ _ _ _)
      | (with_reducible exact malthouselaw09_awake.mono _)
      | (with_reducible exact malthouselaw09_cells.mono _ _)
      | (with_reducible exact malthouseref09_Bools.mono _ _ _)
      | (with_reducible exact malthouseref09_Light.mono _ _)
      | (with_reducible exact malthouseref09_Texts.mono _ _ _)
      | (with_reducible exact rung_Run.mono _ _ _ _)
      | (with_reducible exact LeO.refl _)
      | (with_reducible exact LeO.none _)
      | (with_reducible refine LeO.ite ?_ ?_)
      | (with_reducible refine LeO.bind ?_ (fun _ => ?_))
      | exact ih0 _ _ _ _ _ _
      | exact ih1 _ _ _ _ _ _ _
      | exact ih2 _ _ _ _ _ _ _
      | exact malthouselaw09_awake.mono _
      | exact malthouselaw09_cells.mono _ _
      | exact malthouseref09_Bools.mono _ _ _
      | exact malthouseref09_Light.mono _ _
      | exact malthouseref09_Texts.mono _ _ _
      | exact rung_Run.mono _ _ _ _
      | exact LeO.none _
      | refine LeO.ite ?_ ?_
      | refine LeO.bind ?_ (fun _ => ?_)
    · intro y0 y1 y2 y3 y4 y5 y6
      unfold malthouselaw09_RungBehind.j2
      repeat' first
      | (with_reducible exact ih0 _ _ _ _ _ _)
      | (with_reducible exact ih1 _ _ _ _ _ _ _)
      | (with_reducible exact ih2 _ _ _ _ _ _ _)
      | (with_reducible exact malthouselaw09_awake.mono _)
      | (with_reducible exact malthouselaw09_cells.mono _ _)
      | (with_reducible exact malthouseref09_Bools.mono _ _ _)
      | (with_reducible exact malthouseref09_Light.mono _ _)
      | (with_reducible exact malthouseref09_Texts.mono _ _ _)
      | (with_reducible exact rung_Run.mono _ _ _ _)
      | (with_reducible exact LeO.refl _)
      | (with_reducible exact LeO.none _)
      | (with_reducible refine LeO.ite ?_ ?_)
      | (with_reducible refine LeO.bind ?_ (fun _ => ?_))
      | exact ih0 _ _ _ _ _ _
      | exact ih1 _ _ _ _ _ _ _
      | exact ih2 _ _ _ _ _ _ _
      | exact malthouselaw09_awake.mono _
      | exact malthouselaw09_cells.mono _ _
      | exact malthouseref09_Bools.mono _ _ _
      | exact malthouseref09_Light.mono _ _
      | exact malthouseref09_Texts.mono _ _ _
      | exact rung_Run.mono _ _ _ _
      | exact LeO.none _
      | refine LeO.ite ?_ ?_
      | refine LeO.bind ?_ (fun _ => ?_)
theorem malthouselaw09_RungBehind.mono : ∀ a0 a1 a2 a3 a4 a5 k, LeO (malthouselaw09_RungBehind.f k a0 a1 a2 a3 a4 a5) (malthouselaw09_RungBehind.f (k + 1) a0 a1 a2 a3 a4 a5) := by
  intro a0 a1 a2 a3 a4 a5 k
  obtain ⟨ih0, ih1, ih2⟩ := malthouselaw09_RungBehind.mono_l k
  unfold malthouselaw09_RungBehind.f
  repeat' first
      | (with_reducible exact ih0 _ _ _ _ _ _)
      | (with_reducible exact ih1 _ _ _ _ _ _ _)
      | (with_reducible exact ih2 _ _ _ _ _ _ _)
      | (with_reducible exact malthouselaw09_awake.mono _)
      | (with_reducible exact malthouselaw09_cells.mono _ _)
      | (with_reducible exact malthouseref09_Bools.mono _ _ _)
      | (with_reducible exact malthouseref09_Light.mono _ _)
      | (with_reducible exact malthouseref09_Texts.mono _ _ _)
      | (with_reducible exact rung_Run.mono _ _ _ _)
      | (with_reducible exact LeO.refl _)
      | (with_reducible exact LeO.none _)
      | (with_reducible refine LeO.ite ?_ ?_)
      | (with_reducible refine LeO.bind ?_ (fun _ => ?_))
      | exact ih0 _ _ _ _ _ _
      | exact ih1 _ _ _ _ _ _ _
      | exact ih2 _ _ _ _ _ _ _
      | exact malthouselaw09_awake.mono _
      | exact malthouselaw09_cells.mono _ _
      | exact malthouseref09_Bools.mono _ _ _
      | exact malthouseref09_Light.mono _ _
      | exact malthouseref09_Texts.mono _ _ _
      | exact rung_Run.mono _ _ _ _
      | exact LeO.none _
      | refine LeO.ite ?_ ?_
      | refine LeO.bind ?_ (fun _ => ?_)
set_option maxHeartbeats 8000000 in
set_option maxRecDepth 100000 in
theorem malthouselaw09_RungBehind.calls (k : Nat) (P0_ : Nat → Prop) (A0 : Option Addr) (c0 : Nat) (l0 : List (S43)) (a1_0 : Int) (a1_1 : ByteArray) (P1_2_ : Nat → Prop) (A1_2 : Option Addr) (c1_2 : Nat) (l1_2 : List (S40)) (A2 : Option Addr) (c2 : Nat) (l2 : List Bool) (A3 : Option Addr) (c3 : Nat) (l3 : List (S69)) (r : Bool) (w : World) (hs0 : Kd.V k43 43 w w.heap.size (fun k_ => P0_ k_) (.slice A0 l0.length c0) l0) (hs1_2 : Kd.V k40 40 w w.heap.size (fun k_ => P1_2_ k_) (.slice A1_2 l1_2.length c1_2) l1_2) (hr2 : Kd.C Kd.bool w A2 l2.length l2) (hc2 : l2.length ≤ c2) (hr3 : Kd.C k69 w A3 l3.length l3) (hc3 : l3.length ≤ c3) (h : malthouselaw09_RungBehind.f k l0 a1_0 a1_1 l1_2 l2 l3 = some r) (hT : UT w) (hR : r = true) :
  Calls Tryd.prog 6 #[.slice A0 l0.length c0, .agg #[.int .i64 a1_0, .string a1_1, .slice A1_2 l1_2.length c1_2], .slice A2 l2.length c2, .slice A3 l3.length c3] w fun e w' => e = .returned (.bool r) ∧ Below w.heap.size w w' := by
 have HT0 := Aside0.mk hT
 clear hT
 have HRT := Aside0.mk hR
 clear hR
 have hu43 := Tryd.underlying43
 have HO0 := Aside0.mk (show Kd.V k43 43 w w.heap.size (fun k_ => ((P0_ k_ ∨ P1_2_ k_) ∨ w.heap.size ≤ k_)) (.slice A0 l0.length c0) l0 from Kd.V_mono hs0 (fun k_ hk => .inl (.inl hk)))
 have HO1_2 := Aside0.mk (show Kd.V k40 40 w w.heap.size (fun k_ => ((P0_ k_ ∨ P1_2_ k_) ∨ w.heap.size ≤ k_)) (.slice A1_2 l1_2.length c1_2) l1_2 from Kd.V_mono hs1_2 (fun k_ hk => .inl (.inr hk)))
 have HR2 := Aside0.mk hr2
 have HC2 := Aside0.mk hc2
 clear hr2 hc2
 have HR3 := Aside0.mk hr3
 have HC3 := Aside0.mk hc3
 clear hr3 hc3
 have HB := Aside0.mk (Below.refl w.heap.size w)
 have H : ((malthouselaw09_awake.f k).bind fun t102 => (if ([] : List (S43)).length + l0.length < 2932031007402 then ((some (([] : List (S43)) ++ l0 : List (S43))).bind fun y103 => ((some (([(⟨a1_0, a1_1, l1_2⟩ : S43)] : List (S43)) : List (S43))).bind fun y106 => (if y103.length + y106.length < 2932031007402 then ((some (y103 ++ y106 : List (S43))).bind fun y109 => ((malthouseref09_Light.f k y109).bind fun t112 => ((malthouselaw09_cells.f k l3).bind fun t113 => (if t102 = true then (if t112 = true then (if t113 = true then (if (l2.length : Int) > 1000 then (malthouselaw09_RungBehind.j0 k l0 l2 l3 t102 y109 true) else (if a1_0 = 3 then (malthouselaw09_RungBehind.j0 k l0 l2 l3 t102 y109 false) else (malthouselaw09_RungBehind.j0 k l0 l2 l3 t102 y109 (a1_0 != 4)))) else (malthouselaw09_RungBehind.j0 k l0 l2 l3 t102 y109 true)) else (malthouselaw09_RungBehind.j0 k l0 l2 l3 t102 y109 true)) else (malthouselaw09_RungBehind.j0 k l0 l2 l3 t102 y109 true))))) else (none)))) else (none))) = some r := h
 clear h
 replace H := qi H
 obtain ⟨t102, A5, H⟩ := H
 by_cases c6 : ([] : List (S43)).length + l0.length < 2932031007402
 ·rw [if_pos c6] at H
  have LMc6 := Aside0.mk c6
  clear c6
  obtain ⟨y103, hy103⟩ : ∃ y_ : List (S43), y_ = (([] : List (S43)) ++ l0) := ⟨_, rfl⟩
  replace H : ((some (([(⟨a1_0, a1_1, l1_2⟩ : S43)] : List (S43)) : List (S43))).bind fun y106 => (if y103.length + y106.length < 2932031007402 then ((some (y103 ++ y106 : List (S43))).bind fun y109 => ((malthouseref09_Light.f k y109).bind fun t112 => ((malthouselaw09_cells.f k l3).bind fun t113 => (if t102 = true then (if t112 = true then (if t113 = true then (if (l2.length : Int) > 1000 then (malthouselaw09_RungBehind.j0 k l0 l2 l3 t102 y109 true) else (if a1_0 = 3 then (malthouselaw09_RungBehind.j0 k l0 l2 l3 t102 y109 false) else (malthouselaw09_RungBehind.j0 k l0 l2 l3 t102 y109 (a1_0 != 4)))) else (malthouselaw09_RungBehind.j0 k l0 l2 l3 t102 y109 true)) else (malthouselaw09_RungBehind.j0 k l0 l2 l3 t102 y109 true)) else (malthouselaw09_RungBehind.j0 k l0 l2 l3 t102 y109 true))))) else (none))) = some r := by first | (rw [hy103]; with_reducible exact H) | (have H2_ := (Option.bind_some _ _).symm.trans H; rw [hy103]; with_reducible exact H2_) | (have H2_ := (Option.bind_some _ _).symm.trans H; with_reducible exact H2_) | with_reducible exact H | (rw [hy103]; exact H) | exact H
  have Ny103 := Aside0.mk hy103
  clear hy103
  obtain ⟨y106, hy106⟩ : ∃ y_ : List (S43), y_ = (([(⟨a1_0, a1_1, l1_2⟩ : S43)] : List (S43))) := ⟨_, rfl⟩
  replace H : (if y103.length + y106.length < 2932031007402 then ((some (y103 ++ y106 : List (S43))).bind fun y109 => ((malthouseref09_Light.f k y109).bind fun t112 => ((malthouselaw09_cells.f k l3).bind fun t113 => (if t102 = true then (if t112 = true then (if t113 = true then (if (l2.length : Int) > 1000 then (malthouselaw09_RungBehind.j0 k l0 l2 l3 t102 y109 true) else (if a1_0 = 3 then (malthouselaw09_RungBehind.j0 k l0 l2 l3 t102 y109 false) else (malthouselaw09_RungBehind.j0 k l0 l2 l3 t102 y109 (a1_0 != 4)))) else (malthouselaw09_RungBehind.j0 k l0 l2 l3 t102 y109 true)) else (malthouselaw09_RungBehind.j0 k l0 l2 l3 t102 y109 true)) else (malthouselaw09_RungBehind.j0 k l0 l2 l3 t102 y109 true))))) else (none)) = some r := by first | (rw [hy106]; with_reducible exact H) | (have H2_ := (Option.bind_some _ _).symm.trans H; rw [hy106]; with_reducible exact H2_) | (have H2_ := (Option.bind_some _ _).symm.trans H; with_reducible exact H2_) | with_reducible exact H | (rw [hy106]; exact H) | exact H
  have Ny106 := Aside0.mk hy106
  clear hy106
  by_cases c7 : y103.length + y106.length < 2932031007402
  ·rw [if_pos c7] at H
   have LMc7 := Aside0.mk c7
   clear c7
   obtain ⟨y109, hy109⟩ : ∃ y_ : List (S43), y_ = (y103 ++ y106) := ⟨_, rfl⟩
   replace H : ((malthouseref09_Light.f k y109).bind fun t112 => ((malthouselaw09_cells.f k l3).bind fun t113 => (if t102 = true then (if t112 = true then (if t113 = true then (if (l2.length : Int) > 1000 then (malthouselaw09_RungBehind.j0 k l0 l2 l3 t102 y109 true) else (if a1_0 = 3 then (malthouselaw09_RungBehind.j0 k l0 l2 l3 t102 y109 false) else (malthouselaw09_RungBehind.j0 k l0 l2 l3 t102 y109 (a1_0 != 4)))) else (malthouselaw09_RungBehind.j0 k l0 l2 l3 t102 y109 true)) else (malthouselaw09_RungBehind.j0 k l0 l2 l3 t102 y109 true)) else (malthouselaw09_RungBehind.j0 k l0 l2 l3 t102 y109 true)))) = some r := by first | (rw [hy109]; with_reducible exact H) | (have H2_ := (Option.bind_some _ _).symm.trans H; rw [hy109]; with_reducible exact H2_) | (have H2_ := (Option.bind_some _ _).symm.trans H; with_reducible exact H2_) | with_reducible exact H | (rw [hy109]; exact H) | exact H
   have Ny109 := Aside0.mk hy109
   clear hy109
   replace H := qi H
   obtain ⟨t112, A8, H⟩ := H
   replace H := qi H
   obtain ⟨t113, A9, H⟩ := H
   have HC10 := Aside0.mk H
   clear H
   go_enter Tryd.func6, Tryd.ntmps6
   try go_wp2_with (first | ((with_reducible refine gate_dst (N := 5) rfl ?_); (try (refine gate_guard (by rfl) ?_; dsimp only)); refine box_event ?hg (N := 5) ?hd (cs := #[.int .i64 a1_0, .string a1_1, .slice A1_2 l1_2.length c1_2]) (t := 43) ?hr ?_; (case hd => rfl); (case hg => rfl); (case hr => first | (go_simp; done) | (go_simp; rfl)); intro gb101 hg w11 hbox hb; have n0_ := Aside0.mk (Kd.V_below (Kd.V_elderB (by (with_reducible repeat (first | apply Kd.V_alloc | apply Kd.V_drewN | apply Kd.V_drew)); exact HO0.out) gb101 (Nat.le_of_eq hg.symm)) hb); have n1_ := Aside0.mk (Kd.V_below (Kd.V_elderB (by (with_reducible repeat (first | apply Kd.V_alloc | apply Kd.V_drewN | apply Kd.V_drew)); exact HO1_2.out) gb101 (Nat.le_of_eq hg.symm)) hb); have n2_ := qs hb; have n3_ := Aside0.mk (hbox); have n4_ := Aside0.mk ((by rw [hg]; exact (below_size qb) : w.heap.size ≤ gb101)); have n5_ := Aside0.mk ((by rw [hg]; exact (below_size qb) : w.heap.size ≤ gb101)); clear HO0; clear HO1_2; clear HB; have HO0 := n0_; have HO1_2 := n1_; have HB := n2_; have BK101 := n3_; have GW101 := n4_; have GE101 := n5_; clear n0_ n1_ n2_ n3_ n4_ n5_; clear hb hbox hg) | ((with_reducible refine gate_callee (f := 19) rfl ?_); refine goesL_ (some 22) rfl rfl Tryd.func19 (by kernel_rfl) rfl #[] rfl qm ?_; (with_reducible refine (malthouselaw09_awake.calls k  t102 _ A5.out (by first | exact HT0.out | exact UT.below HT0.out qb) (malthouselaw09_awake_r A5.out)).mono ?_); rintro e w12 ⟨rfl, hb⟩; refine ⟨_, rfl, ?_⟩; have n0_ := Aside0.mk (Kd.V_below (by (with_reducible repeat (first | apply Kd.V_alloc | apply Kd.V_drewN | apply Kd.V_drew)); exact HO0.out) hb); have n1_ := Aside0.mk (Kd.V_below (by (with_reducible repeat (first | apply Kd.V_alloc | apply Kd.V_drewN | apply Kd.V_drew)); exact HO1_2.out) hb); have n2_ := qn (g := gb101) hb; have n3_ := qs hb; clear HO0; clear HO1_2; clear BK101; clear HB; have HO0 := n0_; have HO1_2 := n1_; have BK101 := n2_; have HB := n3_; clear n0_ n1_ n2_ n3_; (try clear hb)))
   have n0_ := Aside0.mk (Kd.V_drew HO0.out)
   have n1_ := Aside0.mk (Kd.V_drew HO1_2.out)
   have n2_ := Aside0.mk (blk_drew BK101.out)
   have n3_ := Aside0.mk (below_drew1 HB.out)
   clear HO0
   clear HO1_2
   clear BK101
   clear HB
   have HO0 := n0_
   have HO1_2 := n1_
   have BK101 := n2_
   have HB := n3_
   clear n0_ n1_ n2_ n3_
   refine start_ (n := 6) (S := fun w' => w'.cell? ⟨gb101, 0, none⟩ = some (.int .i64 a1_0) ∧ w'.cell? ⟨gb101, 1, none⟩ = some (.string a1_1) ∧ w'.cell? ⟨gb101, 2, none⟩ = some (.slice A1_2 l1_2.length c1_2)) (ds := []) #[false, false, false, false, false, false] (by kernel_rfl) rfl rfl ⟨(blk_cell BK101.out 0).trans rfl, (blk_cell BK101.out 1).trans rfl, (blk_cell BK101.out 2).trans rfl⟩ (fun hHeld => ?_)
   generalize w12.drew = w13 at HO0 HO1_2 BK101 HB hHeld ⊢
   refine pure_ (i := 0) (N := some 23) (v := ?_) (a' := ?_) #[Y,Z,Z,Z,Z,Z] rfl rfl (by kernel_rfl) (fun _ _ _ h => h) (Or.inl ⟨by rfl, ?_⟩) ?_ ?_
   rotate_left
   ·intro w'
    go_simp
    with_reducible rfl
   rotate_left
   ·simp only [Act.put, List.setIfInBounds_toArray, List.set_cons_zero, List.set_cons_succ, i64_w, i32_w]
    rfl
   refine take_ (i := 2) (N := some 25) (v := ?_) (a' := ?_) #[Y,Z,Y,Z,Z,Z] rfl rfl (by kernel_rfl) (fun _ _ _ h => h) (Or.inl ⟨by rfl, ?_⟩) hHeld ?_ ?_
   rotate_left
   ·rintro w' ⟨s0, s1, s2⟩
    go_simp
    with_reducible rfl
   rotate_left
   ·simp only [Act.put, List.setIfInBounds_toArray, List.set_cons_zero, List.set_cons_succ, i64_w, i32_w]
    rfl
   refine join_ (σ := Value × Value) 2 #[Y,Y,Y,Y,Z,Z] (fun s_ => [(24, s_.1), (26, s_.2)]) (fun s_ w' => (w'.cell? ⟨gb101, 0, none⟩ = some (.int .i64 a1_0) ∧ w'.cell? ⟨gb101, 1, none⟩ = some (.string a1_1) ∧ w'.cell? ⟨gb101, 2, none⟩ = some (.slice A1_2 l1_2.length c1_2)) ∧ (Kd.V k43 43 w' w.heap.size (fun k_ => ((P0_ k_ ∨ P1_2_ k_) ∨ w.heap.size ≤ k_) ∧ some k_ ≠ (s_.1 : Value).ownBlock ∧ some k_ ≠ (s_.2 : Value).ownBlock ∧ k_ ≠ gb101) (.slice A0 l0.length c0) l0) ∧ (Kd.N k43 43 w' w.heap.size (fun k_ => ((P0_ k_ ∨ P1_2_ k_) ∨ w.heap.size ≤ k_) ∧ some k_ ≠ (s_.2 : Value).ownBlock ∧ k_ ≠ gb101) s_.1 y103) ∧ (Kd.N k43 43 w' w.heap.size (fun k_ => ((P0_ k_ ∨ P1_2_ k_) ∨ w.heap.size ≤ k_) ∧ some k_ ≠ (s_.1 : Value).ownBlock ∧ k_ ≠ gb101) s_.2 y106) ∧ (Kd.V k40 40 w' w.heap.size (fun k_ => ((P0_ k_ ∨ P1_2_ k_) ∨ w.heap.size ≤ k_) ∧ some k_ ≠ (s_.1 : Value).ownBlock ∧ some k_ ≠ (s_.2 : Value).ownBlock ∧ k_ ≠ gb101) (.slice A1_2 l1_2.length c1_2) l1_2) ∧ (w'.heap[gb101]? = some (.cells #[.int .i64 a1_0, .string a1_1, .slice A1_2 l1_2.length c1_2] 43 (0, 0))) ∧ (Below w.heap.size w w')) ?_ ?_
   rotate_left
   ·intro hCont
    refine two_ (i := 1) (j := 3) (Ni := some 24) (Nj := some 26) #[Y,Y,Y,Z,Z,Z] #[Y,Z,Y,Y,Z,Z] rfl rfl rfl rfl (by kernel_rfl) (by decide) (by decide) (fun K hK => ?_) (fun K hK => ?_)
    ·skip
     refine Kd.N_append_rows_step k43 (w0 := w) w.heap.size (by rfl) (.const (.slice none 0 0)) (.tmp 23) 22 43 (.agg #[(.int .i64 0), (.string ⟨#[]⟩), (.slice none 0 0)]) 48 rfl Tryd.underlying22 info43 rfl (by decide) (by omega) (.slice none 0 0) ([] : List (S43)) l0 _ _ _ (fun k_ => ((P0_ k_ ∨ P1_2_ k_) ∨ w.heap.size ≤ k_) ∧ k_ ≠ gb101) (fun k_ => ((fun k_ => ((P0_ k_ ∨ P1_2_ k_) ∨ w.heap.size ≤ k_) ∧ k_ ≠ gb101)) k_ ∧ some k_ ≠ (.slice none 0 0 : Value).ownBlock) rfl rfl ?aO ?aR (fun _ hk => hk) ?aF ?aB ?aS ?aL ?_
     (case aR => exact (by skip; exact Kd.V_F (Kd.V_mono (ok' := (fun k_ => ((fun k_ => ((P0_ k_ ∨ P1_2_ k_) ∨ w.heap.size ≤ k_) ∧ k_ ≠ gb101)) k_ ∧ some k_ ≠ (.slice none 0 0 : Value).ownBlock)) (HO0.out) (fun k_ hk => ⟨⟨hk.1, hk.2⟩, (by simp [Value.ownBlock])⟩))))
     (case aB => exact qb)
     (case aF => exact (fun k_ hk => ⟨(.inr (Nat.le_trans (below_size qb) hk)), Kd.freshB (g := gb101) (o := .cells #[.int .i64 a1_0, .string a1_1, .slice A1_2 l1_2.length c1_2] 43 (0, 0)) (by (with_reducible repeat (first | refine blk_drewN ?_ _ | refine blk_drew ?_ | refine blk_alloc ?_ _)); exact BK101.out) k_ hk⟩))
     (case aO => exact ((Kd.N_nil _ _ _ _ (fun k_ => ((P0_ k_ ∨ P1_2_ k_) ∨ w.heap.size ≤ k_) ∧ k_ ≠ gb101))))
     (case aS => exact (below_size qb))
     (case aL => have := LMc6.out; omega)
     intro v104 w14 ho hb hg hat
     rw [← Ny103.out] at ho
     have n0_ := Aside0.mk (Kd.V_afterv (Kd.V_apart_nil (by (with_reducible repeat (first | apply Kd.V_alloc | apply Kd.V_drewN | apply Kd.V_drew)); exact HO0.out)) hg hat)
     have n1_ := Aside0.mk (Kd.V_afterv (Kd.V_apart_nil (by (with_reducible repeat (first | apply Kd.V_alloc | apply Kd.V_drewN | apply Kd.V_drew)); exact HO1_2.out)) hg hat)
     have n2_ := Aside0.mk (blk_grown (g := gb101) (o := .cells #[.int .i64 a1_0, .string a1_1, .slice A1_2 l1_2.length c1_2] 43 (0, 0)) (by (with_reducible repeat (first | refine blk_drewN ?_ _ | refine blk_drew ?_ | refine blk_alloc ?_ _)); exact BK101.out) hg (by simp [Value.ownBlock]))
     have n3_ := Aside0.mk (hb)
     have n4_ := Aside0.mk (ho)
     clear HO0
     clear HO1_2
     clear BK101
     clear HB
     have HO0 := n0_
     have HO1_2 := n1_
     have BK101 := n2_
     have HB := n3_
     have HO105 := n4_
     clear n0_ n1_ n2_ n3_ n4_
     clear ho hb hg hat
     refine hK.out _ _ ⟨(blk_cell BK101.out 0).trans rfl, (blk_cell BK101.out 1).trans rfl, (blk_cell BK101.out 2).trans rfl⟩ (fun hHeld => ?_)
     clear hK K
     refine norm_ (a' := ?_) ?_ ?_
     rotate_left
     ·show Act.put _ (some 24) _ = _
      simp only [Act.put, List.setIfInBounds_toArray, List.set_cons_zero, List.set_cons_succ, i64_w, i32_w]
      rfl
     refine one_ (i := 3) (N := some 26) #[Y,Y,Y,Y,Z,Z] rfl rfl (by kernel_rfl) (by decide) (fun K hK => ?_)
     refine Kd.N_lit_step k43 _ 43 ?hg (N' := 26) ?hd (xs := ([(⟨a1_0, a1_1, l1_2⟩ : S43)] : List (S43))) (inner := [.int .i64 a1_0, .string a1_1, .slice A1_2 l1_2.length c1_2]) (ok := (fun k_ => ((P0_ k_ ∨ P1_2_ k_) ∨ w.heap.size ≤ k_) ∧ some k_ ≠ (v104 : Value).ownBlock ∧ k_ ≠ gb101)) (okp := (fun k_ => ((P0_ k_ ∨ P1_2_ k_) ∨ w.heap.size ≤ k_) ∧ some k_ ≠ (v104 : Value).ownBlock ∧ k_ ≠ gb101)) ?hr ?hp (fun _ hk => hk) ((show ∀ k_, w14.heap.size ≤ k_ → (fun k_ => ((P0_ k_ ∨ P1_2_ k_) ∨ w.heap.size ≤ k_) ∧ some k_ ≠ (v104 : Value).ownBlock ∧ k_ ≠ gb101) k_ from fun k_ hk => ⟨(.inr (Nat.le_trans (below_size qb) hk)), Kd.fresh' (Kd.N_lt (by (with_reducible repeat (first | apply Kd.N_alloc | apply Kd.N_drewN | apply Kd.N_drew)); exact HO105.out)) k_ hk, Kd.freshB (g := gb101) (o := .cells #[.int .i64 a1_0, .string a1_1, .slice A1_2 l1_2.length c1_2] 43 (0, 0)) (by (with_reducible repeat (first | refine blk_drewN ?_ _ | refine blk_drew ?_ | refine blk_alloc ?_ _)); exact BK101.out) k_ hk⟩) _ (Nat.le_refl _)) (Below.refl _ _) (Nat.le_refl _) (by simp) ?_; (case hd => rfl); (case hg => rfl); (case hr => first | (go_simp; done) | (go_simp; rfl)); (case hp => exact (Reps.c3 (show Kd.FK k43 _ _ (⟨a1_0, a1_1, l1_2⟩ : S43) [.int .i64 a1_0, .string a1_1, .slice A1_2 l1_2.length c1_2] from (k43_mkF _ _ (⟨a1_0, a1_1, l1_2⟩ : S43) (Kd.V_reads' (Kd.V_mono (ok' := (fun k_ => ((P0_ k_ ∨ P1_2_ k_) ∨ w.heap.size ≤ k_) ∧ some k_ ≠ (v104 : Value).ownBlock ∧ k_ ≠ gb101)) (HO1_2.out) (fun k_ hk => ⟨hk.1.1, ⟨hk.2, hk.1.2⟩⟩))).2.1 (Kd.V_F (Kd.V_mono (ok' := (fun k_ => ((P0_ k_ ∨ P1_2_ k_) ∨ w.heap.size ≤ k_) ∧ some k_ ≠ (v104 : Value).ownBlock ∧ k_ ≠ gb101)) (HO1_2.out) (fun k_ hk => ⟨hk.1.1, ⟨hk.2, hk.1.2⟩⟩))))) (Reps.none _ _)))
     intro v107 w15 ho16 hb hg_ hnew_
     clear hg_ hnew_
     (first | rw [← Ny106.out] at ho16 | (simp only [Int.reduceToNat] at ho16; rw [← Ny106.out] at ho16))
     have n0_ := Aside0.mk (Kd.V_elder' (by (with_reducible repeat (first | apply Kd.V_alloc | apply Kd.V_drewN | apply Kd.V_drew)); exact HO0.out) (Kd.N_base ho16) hb)
     have n1_ := Aside0.mk (Kd.V_elder' (by (with_reducible repeat (first | apply Kd.V_alloc | apply Kd.V_drewN | apply Kd.V_drew)); exact HO1_2.out) (Kd.N_base ho16) hb)
     have n2_ := Aside0.mk (Kd.N_elder' (by (with_reducible repeat (first | apply Kd.N_alloc | apply Kd.N_drewN | apply Kd.N_drew)); exact HO105.out) (Kd.N_base ho16) hb)
     have n3_ := Aside0.mk (Kd.N_lower ho16 (below_size qb))
     have n4_ := qn (g := gb101) hb
     have n5_ := qs hb
     clear HO0
     clear HO1_2
     clear HO105
     clear BK101
     clear HB
     have HO0 := n0_
     have HO1_2 := n1_
     have HO105 := n2_
     have HO108 := n3_
     have BK101 := n4_
     have HB := n5_
     clear n0_ n1_ n2_ n3_ n4_ n5_
     clear hb ho16
     refine hK.out _ _ ⟨(blk_cell BK101.out 0).trans rfl, (blk_cell BK101.out 1).trans rfl, (blk_cell BK101.out 2).trans rfl⟩ (fun hHeld => ?_)
     clear hK K
     refine norm_ (a' := ?_) ?_ ?_
     rotate_left
     ·show Act.put _ (some 26) _ = _
      simp only [Act.put, List.setIfInBounds_toArray, List.set_cons_zero, List.set_cons_succ, i64_w, i32_w]
      rfl
     exact norm_ (by simp only [putAll, Act.put, List.setIfInBounds_toArray, List.set_cons_zero, List.set_cons_succ]) (hCont (v104, v107) _ ⟨hHeld, (by (with_reducible repeat (first | apply Kd.V_alloc | apply Kd.V_drewN | apply Kd.V_drew)); exact Kd.V_mono HO0.out (fun _ hk => ⟨hk.1.1.1, ⟨hk.1.2, ⟨hk.2, hk.1.1.2⟩⟩⟩)), (by (with_reducible repeat (first | apply Kd.N_alloc | apply Kd.N_drewN | apply Kd.N_drew)); exact Kd.N_mono HO105.out (fun _ hk => ⟨hk.1.1, ⟨hk.2, hk.1.2⟩⟩)), (by (with_reducible repeat (first | apply Kd.N_alloc | apply Kd.N_drewN | apply Kd.N_drew)); exact HO108.out), (by (with_reducible repeat (first | apply Kd.V_alloc | apply Kd.V_drewN | apply Kd.V_drew)); exact Kd.V_mono HO1_2.out (fun _ hk => ⟨hk.1.1.1, ⟨hk.1.2, ⟨hk.2, hk.1.1.2⟩⟩⟩)), (by (with_reducible repeat (first | refine blk_drewN ?_ _ | refine blk_drew ?_ | refine blk_alloc ?_ _)); exact BK101.out), qb⟩)
    ·skip
     refine Kd.N_lit_step k43 _ 43 ?hg (N' := 26) ?hd (xs := ([(⟨a1_0, a1_1, l1_2⟩ : S43)] : List (S43))) (inner := [.int .i64 a1_0, .string a1_1, .slice A1_2 l1_2.length c1_2]) (ok := (fun k_ => ((P0_ k_ ∨ P1_2_ k_) ∨ w.heap.size ≤ k_) ∧ k_ ≠ gb101)) (okp := (fun k_ => ((P0_ k_ ∨ P1_2_ k_) ∨ w.heap.size ≤ k_) ∧ k_ ≠ gb101)) ?hr ?hp (fun _ hk => hk) ((show ∀ k_, w13.heap.size ≤ k_ → (fun k_ => ((P0_ k_ ∨ P1_2_ k_) ∨ w.heap.size ≤ k_) ∧ k_ ≠ gb101) k_ from fun k_ hk => ⟨(.inr (Nat.le_trans (below_size qb) hk)), Kd.freshB (g := gb101) (o := .cells #[.int .i64 a1_0, .string a1_1, .slice A1_2 l1_2.length c1_2] 43 (0, 0)) (by (with_reducible repeat (first | refine blk_drewN ?_ _ | refine blk_drew ?_ | refine blk_alloc ?_ _)); exact BK101.out) k_ hk⟩) _ (Nat.le_refl _)) (Below.refl _ _) (Nat.le_refl _) (by simp) ?_; (case hd => rfl); (case hg => rfl); (case hr => first | (go_simp; done) | (go_simp; rfl)); (case hp => exact (Reps.c3 (show Kd.FK k43 _ _ (⟨a1_0, a1_1, l1_2⟩ : S43) [.int .i64 a1_0, .string a1_1, .slice A1_2 l1_2.length c1_2] from (k43_mkF _ _ (⟨a1_0, a1_1, l1_2⟩ : S43) (Kd.V_reads' (Kd.V_mono (ok' := (fun k_ => ((P0_ k_ ∨ P1_2_ k_) ∨ w.heap.size ≤ k_) ∧ k_ ≠ gb101)) (HO1_2.out) (fun k_ hk => ⟨hk.1, hk.2⟩))).2.1 (Kd.V_F (Kd.V_mono (ok' := (fun k_ => ((P0_ k_ ∨ P1_2_ k_) ∨ w.heap.size ≤ k_) ∧ k_ ≠ gb101)) (HO1_2.out) (fun k_ hk => ⟨hk.1, hk.2⟩))))) (Reps.none _ _)))
     intro v107 w14 ho15 hb hg_ hnew_
     clear hg_ hnew_
     (first | rw [← Ny106.out] at ho15 | (simp only [Int.reduceToNat] at ho15; rw [← Ny106.out] at ho15))
     have n0_ := Aside0.mk (Kd.V_elder' (by (with_reducible repeat (first | apply Kd.V_alloc | apply Kd.V_drewN | apply Kd.V_drew)); exact HO0.out) (Kd.N_base ho15) hb)
     have n1_ := Aside0.mk (Kd.V_elder' (by (with_reducible repeat (first | apply Kd.V_alloc | apply Kd.V_drewN | apply Kd.V_drew)); exact HO1_2.out) (Kd.N_base ho15) hb)
     have n2_ := Aside0.mk (Kd.N_lower ho15 (below_size qb))
     have n3_ := qn (g := gb101) hb
     have n4_ := qs hb
     clear HO0
     clear HO1_2
     clear BK101
     clear HB
     have HO0 := n0_
     have HO1_2 := n1_
     have HO108 := n2_
     have BK101 := n3_
     have HB := n4_
     clear n0_ n1_ n2_ n3_ n4_
     clear hb ho15
     refine hK.out _ _ ⟨(blk_cell BK101.out 0).trans rfl, (blk_cell BK101.out 1).trans rfl, (blk_cell BK101.out 2).trans rfl⟩ (fun hHeld => ?_)
     clear hK K
     refine norm_ (a' := ?_) ?_ ?_
     rotate_left
     ·show Act.put _ (some 26) _ = _
      simp only [Act.put, List.setIfInBounds_toArray, List.set_cons_zero, List.set_cons_succ, i64_w, i32_w]
      rfl
     refine one_ (i := 1) (N := some 24) #[Y,Y,Y,Y,Z,Z] rfl rfl (by kernel_rfl) (by decide) (fun K hK => ?_)
     refine Kd.N_append_rows_step k43 (w0 := w) w.heap.size (by rfl) (.const (.slice none 0 0)) (.tmp 23) 22 43 (.agg #[(.int .i64 0), (.string ⟨#[]⟩), (.slice none 0 0)]) 48 rfl Tryd.underlying22 info43 rfl (by decide) (by omega) (.slice none 0 0) ([] : List (S43)) l0 _ _ _ (fun k_ => ((P0_ k_ ∨ P1_2_ k_) ∨ w.heap.size ≤ k_) ∧ some k_ ≠ (v107 : Value).ownBlock ∧ k_ ≠ gb101) (fun k_ => ((fun k_ => ((P0_ k_ ∨ P1_2_ k_) ∨ w.heap.size ≤ k_) ∧ some k_ ≠ (v107 : Value).ownBlock ∧ k_ ≠ gb101)) k_ ∧ some k_ ≠ (.slice none 0 0 : Value).ownBlock) rfl rfl ?aO ?aR (fun _ hk => hk) ?aF ?aB ?aS ?aL ?_
     (case aR => exact (by skip; exact Kd.V_F (Kd.V_mono (ok' := (fun k_ => ((fun k_ => ((P0_ k_ ∨ P1_2_ k_) ∨ w.heap.size ≤ k_) ∧ some k_ ≠ (v107 : Value).ownBlock ∧ k_ ≠ gb101)) k_ ∧ some k_ ≠ (.slice none 0 0 : Value).ownBlock)) (HO0.out) (fun k_ hk => ⟨⟨hk.1.1, ⟨hk.2, hk.1.2⟩⟩, (by simp [Value.ownBlock])⟩))))
     (case aB => exact qb)
     (case aF => exact (fun k_ hk => ⟨(.inr (Nat.le_trans (below_size qb) hk)), Kd.fresh' (Kd.N_lt (by (with_reducible repeat (first | apply Kd.N_alloc | apply Kd.N_drewN | apply Kd.N_drew)); exact HO108.out)) k_ hk, Kd.freshB (g := gb101) (o := .cells #[.int .i64 a1_0, .string a1_1, .slice A1_2 l1_2.length c1_2] 43 (0, 0)) (by (with_reducible repeat (first | refine blk_drewN ?_ _ | refine blk_drew ?_ | refine blk_alloc ?_ _)); exact BK101.out) k_ hk⟩))
     (case aO => exact ((Kd.N_nil _ _ _ _ (fun k_ => ((P0_ k_ ∨ P1_2_ k_) ∨ w.heap.size ≤ k_) ∧ some k_ ≠ (v107 : Value).ownBlock ∧ k_ ≠ gb101))))
     (case aS => exact (below_size qb))
     (case aL => have := LMc6.out; omega)
     intro v104 w16 ho hb hg hat
     rw [← Ny103.out] at ho
     have n0_ := Aside0.mk (Kd.V_afterv (Kd.V_apart_nil (by (with_reducible repeat (first | apply Kd.V_alloc | apply Kd.V_drewN | apply Kd.V_drew)); exact HO0.out)) hg hat)
     have n1_ := Aside0.mk (Kd.V_afterv (Kd.V_apart_nil (by (with_reducible repeat (first | apply Kd.V_alloc | apply Kd.V_drewN | apply Kd.V_drew)); exact HO1_2.out)) hg hat)
     have n2_ := Aside0.mk (blk_grown (g := gb101) (o := .cells #[.int .i64 a1_0, .string a1_1, .slice A1_2 l1_2.length c1_2] 43 (0, 0)) (by (with_reducible repeat (first | refine blk_drewN ?_ _ | refine blk_drew ?_ | refine blk_alloc ?_ _)); exact BK101.out) hg (by simp [Value.ownBlock]))
     have n3_ := Aside0.mk (Kd.N_afterv (Kd.N_apart_nil (by (with_reducible repeat (first | apply Kd.N_alloc | apply Kd.N_drewN | apply Kd.N_drew)); exact HO108.out)) hg hat)
     have n4_ := Aside0.mk (hb)
     have n5_ := Aside0.mk (ho)
     clear HO0
     clear HO1_2
     clear BK101
     clear HO108
     clear HB
     have HO0 := n0_
     have HO1_2 := n1_
     have BK101 := n2_
     have HO108 := n3_
     have HB := n4_
     have HO105 := n5_
     clear n0_ n1_ n2_ n3_ n4_ n5_
     clear ho hb hg hat
     refine hK.out _ _ ⟨(blk_cell BK101.out 0).trans rfl, (blk_cell BK101.out 1).trans rfl, (blk_cell BK101.out 2).trans rfl⟩ (fun hHeld => ?_)
     clear hK K
     refine norm_ (a' := ?_) ?_ ?_
     rotate_left
     ·show Act.put _ (some 24) _ = _
      simp only [Act.put, List.setIfInBounds_toArray, List.set_cons_zero, List.set_cons_succ, i64_w, i32_w]
      rfl
     exact norm_ (by simp only [putAll, Act.put, List.setIfInBounds_toArray, List.set_cons_zero, List.set_cons_succ]) (hCont (v104, v107) _ ⟨hHeld, (by (with_reducible repeat (first | apply Kd.V_alloc | apply Kd.V_drewN | apply Kd.V_drew)); exact Kd.V_mono HO0.out (fun _ hk => ⟨hk.1.1.1, ⟨hk.2, ⟨hk.1.2, hk.1.1.2⟩⟩⟩)), (by (with_reducible repeat (first | apply Kd.N_alloc | apply Kd.N_drewN | apply Kd.N_drew)); exact HO105.out), (by (with_reducible repeat (first | apply Kd.N_alloc | apply Kd.N_drewN | apply Kd.N_drew)); exact Kd.N_mono HO108.out (fun _ hk => ⟨hk.1.1, ⟨hk.2, hk.1.2⟩⟩)), (by (with_reducible repeat (first | apply Kd.V_alloc | apply Kd.V_drewN | apply Kd.V_drew)); exact Kd.V_mono HO1_2.out (fun _ hk => ⟨hk.1.1.1, ⟨hk.2, ⟨hk.1.2, hk.1.1.2⟩⟩⟩)), (by (with_reducible repeat (first | refine blk_drewN ?_ _ | refine blk_drew ?_ | refine blk_alloc ?_ _)); exact BK101.out), qb⟩)
   rintro ⟨v104, v107⟩ w17 ⟨hS_, h0_, h1_, h2_, h3_, h4_, h5_⟩
   have n0_ : Aside0 (Kd.V k43 43 w17 w.heap.size (fun k_ => ((P0_ k_ ∨ P1_2_ k_) ∨ w.heap.size ≤ k_) ∧ some k_ ≠ (v104 : Value).ownBlock ∧ some k_ ≠ (v107 : Value).ownBlock ∧ k_ ≠ gb101) (.slice A0 l0.length c0) l0) := ⟨h0_⟩
   have n1_ : Aside0 (Kd.N k43 43 w17 w.heap.size (fun k_ => ((P0_ k_ ∨ P1_2_ k_) ∨ w.heap.size ≤ k_) ∧ some k_ ≠ (v107 : Value).ownBlock ∧ k_ ≠ gb101) v104 y103) := ⟨h1_⟩
   have n2_ : Aside0 (Kd.N k43 43 w17 w.heap.size (fun k_ => ((P0_ k_ ∨ P1_2_ k_) ∨ w.heap.size ≤ k_) ∧ some k_ ≠ (v104 : Value).ownBlock ∧ k_ ≠ gb101) v107 y106) := ⟨h2_⟩
   have n3_ : Aside0 (Kd.V k40 40 w17 w.heap.size (fun k_ => ((P0_ k_ ∨ P1_2_ k_) ∨ w.heap.size ≤ k_) ∧ some k_ ≠ (v104 : Value).ownBlock ∧ some k_ ≠ (v107 : Value).ownBlock ∧ k_ ≠ gb101) (.slice A1_2 l1_2.length c1_2) l1_2) := ⟨h3_⟩
   have n4_ : Aside0 (w17.heap[gb101]? = some (.cells #[.int .i64 a1_0, .string a1_1, .slice A1_2 l1_2.length c1_2] 43 (0, 0))) := ⟨h4_⟩
   have n5_ : Aside0 (Below w.heap.size w w17) := ⟨h5_⟩
   clear HO0
   clear HO1_2
   clear BK101
   clear HB
   clear h0_ h1_ h2_ h3_ h4_ h5_
   have HO0 := n0_
   have HO105 := n1_
   have HO108 := n2_
   have HO1_2 := n3_
   have BK101 := n4_
   have HB := n5_
   clear n0_ n1_ n2_ n3_ n4_ n5_
   have hHeld : w17.cell? ⟨gb101, 0, none⟩ = some (.int .i64 a1_0) ∧ w17.cell? ⟨gb101, 1, none⟩ = some (.string a1_1) ∧ w17.cell? ⟨gb101, 2, none⟩ = some (.slice A1_2 l1_2.length c1_2) := hS_
   obtain ⟨Ao19, co19, eo19⟩ := Kd.N_slice HO108.out
   (first | subst eo19 | (injection eo19 with f1_ f2_ f3_; have f4_ := f1_.symm; have f5_ := f3_.symm; clear f1_ f2_ f3_; subst f4_; subst f5_))
   refine norm_ (a' := ?_) ?_ ?_
   rotate_left
   ·simp only [putAll, Act.put, List.setIfInBounds_toArray, List.set_cons_zero, List.set_cons_succ]
    rfl
   refine one_ (i := 4) (N := some 27) #[Y,Y,Y,Y,Y,Z] rfl rfl (by kernel_rfl) (by decide) (fun K hK => ?_)
   refine Kd.N_append_rows_step k43 (w0 := w) w.heap.size (by rfl) (.tmp 24) (.tmp 26) 22 43 (.agg #[(.int .i64 0), (.string ⟨#[]⟩), (.slice none 0 0)]) 48 rfl Tryd.underlying22 info43 rfl (by decide) (by omega) v104 y103 y106 _ _ _ (fun k_ => ((P0_ k_ ∨ P1_2_ k_) ∨ w.heap.size ≤ k_) ∧ k_ ≠ gb101) (fun k_ => ((fun k_ => ((P0_ k_ ∨ P1_2_ k_) ∨ w.heap.size ≤ k_) ∧ k_ ≠ gb101)) k_ ∧ some k_ ≠ (v104 : Value).ownBlock) rfl rfl ?aO ?aR (fun _ hk => hk) ?aF ?aB ?aS ?aL ?_
   (case aR => exact (by skip; exact Kd.N_F (Kd.N_mono (ok' := (fun k_ => ((fun k_ => ((P0_ k_ ∨ P1_2_ k_) ∨ w.heap.size ≤ k_) ∧ k_ ≠ gb101)) k_ ∧ some k_ ≠ (v104 : Value).ownBlock)) (HO108.out) (fun k_ hk => ⟨⟨hk.1, hk.2.2⟩, hk.2.1⟩))))
   (case aB => exact qb)
   (case aF => exact (fun k_ hk => ⟨(.inr (Nat.le_trans (below_size qb) hk)), Kd.freshB (g := gb101) (o := .cells #[.int .i64 a1_0, .string a1_1, .slice A1_2 l1_2.length c1_2] 43 (0, 0)) (by (with_reducible repeat (first | refine blk_drewN ?_ _ | refine blk_drew ?_ | refine blk_alloc ?_ _)); exact BK101.out) k_ hk⟩))
   (case aO => exact (by (with_reducible repeat (first | apply Kd.N_alloc | apply Kd.N_drewN | apply Kd.N_drew)); exact Kd.N_mono HO105.out (fun _ hk => ⟨hk.1, hk.2.2⟩)))
   (case aS => exact (below_size qb))
   (case aL => have := LMc7.out; omega)
   intro v110 w18 ho hb hg hat
   rw [← Ny109.out] at ho
   have n0_ := Aside0.mk (Kd.V_afterv (ok := (fun k_ => ((P0_ k_ ∨ P1_2_ k_) ∨ w.heap.size ≤ k_) ∧ some k_ ≠ (.slice Ao19 y106.length co19 : Value).ownBlock ∧ k_ ≠ gb101)) (by (with_reducible repeat (first | apply Kd.V_alloc | apply Kd.V_drewN | apply Kd.V_drew)); exact Kd.V_mono HO0.out (fun _ hk => ⟨⟨hk.1, ⟨hk.2.2.1, hk.2.2.2⟩⟩, hk.2.1⟩)) hg hat)
   have n1_ := Aside0.mk (Kd.V_afterv (ok := (fun k_ => ((P0_ k_ ∨ P1_2_ k_) ∨ w.heap.size ≤ k_) ∧ some k_ ≠ (.slice Ao19 y106.length co19 : Value).ownBlock ∧ k_ ≠ gb101)) (by (with_reducible repeat (first | apply Kd.V_alloc | apply Kd.V_drewN | apply Kd.V_drew)); exact Kd.V_mono HO1_2.out (fun _ hk => ⟨⟨hk.1, ⟨hk.2.2.1, hk.2.2.2⟩⟩, hk.2.1⟩)) hg hat)
   have n2_ := Aside0.mk (blk_grown (g := gb101) (o := .cells #[.int .i64 a1_0, .string a1_1, .slice A1_2 l1_2.length c1_2] 43 (0, 0)) (by (with_reducible repeat (first | refine blk_drewN ?_ _ | refine blk_drew ?_ | refine blk_alloc ?_ _)); exact BK101.out) hg (Kd.N_away HO105.out (fun _ hk => hk.2.2)))
   have n3_ := Aside0.mk (Kd.N_afterv (ok := (fun k_ => ((P0_ k_ ∨ P1_2_ k_) ∨ w.heap.size ≤ k_) ∧ k_ ≠ gb101)) (by (with_reducible repeat (first | apply Kd.N_alloc | apply Kd.N_drewN | apply Kd.N_drew)); exact Kd.N_mono HO108.out (fun _ hk => ⟨⟨hk.1, hk.2.2⟩, hk.2.1⟩)) hg hat)
   have n4_ := Aside0.mk (hb)
   have n5_ := Aside0.mk (ho)
   clear HO0
   clear HO1_2
   clear BK101
   clear HO108
   clear HB
   clear HO105
   have HO0 := n0_
   have HO1_2 := n1_
   have BK101 := n2_
   have HO108 := n3_
   have HB := n4_
   have HO111 := n5_
   clear n0_ n1_ n2_ n3_ n4_ n5_
   clear ho hb hg hat
   refine hK.out _ _ ⟨(blk_cell BK101.out 0).trans rfl, (blk_cell BK101.out 1).trans rfl, (blk_cell BK101.out 2).trans rfl⟩ (fun hHeld => ?_)
   clear hK K
   refine norm_ (a' := ?_) ?_ ?_
   rotate_left
   ·show Act.put _ (some 27) _ = _
    simp only [Act.put, List.setIfInBounds_toArray, List.set_cons_zero, List.set_cons_succ, i64_w, i32_w]
    rfl
   refine pure_ (i := 5) (N := some 10) (v := ?_) (a' := ?_) #[Y,Y,Y,Y,Y,Y] rfl rfl (by kernel_rfl) (fun _ _ _ h => h) (Or.inl ⟨by rfl, ?_⟩) ?_ ?_
   rotate_left
   ·intro w'
    go_simp
    with_reducible rfl
   rotate_left
   ·simp only [Act.put, List.setIfInBounds_toArray, List.set_cons_zero, List.set_cons_succ, i64_w, i32_w]
    rfl
   refine done_ (by kernel_rfl) ?_
   obtain ⟨Ao20, co20, eo20⟩ := Kd.N_slice HO111.out
   subst eo20
   go_upto_region 5 with (first | ((with_reducible refine gate_callee (f := 20) rfl ?_); refine goesL_ (some 29) rfl rfl Tryd.func20 (by kernel_rfl) rfl #[.slice Ao20 y109.length co20] rfl qm ?_; (with_reducible refine (malthouseref09_Light.calls k _ _ y109 t112 _ ?side1 ?side2 A8.out).mono ?_); (case side1 => repeat (first | exact (Kd.N_reads' HO111.out).2.2 | (with_reducible refine Kd.C_alloc ?_ _) | (with_reducible refine Kd.C_drewN ?_ _) | (with_reducible refine Kd.C_drew ?_))); (case side2 => exact (Kd.N_reads' HO111.out).2.1); rintro e w21 ⟨rfl, hb⟩; refine ⟨_, rfl, ?_⟩; have n0_ := Aside0.mk (Kd.V_below (by (with_reducible repeat (first | apply Kd.V_alloc | apply Kd.V_drewN | apply Kd.V_drew)); exact HO0.out) hb); have n1_ := Aside0.mk (Kd.V_below (by (with_reducible repeat (first | apply Kd.V_alloc | apply Kd.V_drewN | apply Kd.V_drew)); exact HO1_2.out) hb); have n2_ := Aside0.mk (Kd.N_below (by (with_reducible repeat (first | apply Kd.N_alloc | apply Kd.N_drewN | apply Kd.N_drew)); exact HO108.out) hb); have n3_ := Aside0.mk (Kd.N_below (by (with_reducible repeat (first | apply Kd.N_alloc | apply Kd.N_drewN | apply Kd.N_drew)); exact HO111.out) hb); have n4_ := qn (g := gb101) hb; have n5_ := qs hb; clear HO0; clear HO1_2; clear HO108; clear HO111; clear BK101; clear HB; have HO0 := n0_; have HO1_2 := n1_; have HO108 := n2_; have HO111 := n3_; have BK101 := n4_; have HB := n5_; clear n0_ n1_ n2_ n3_ n4_ n5_; (try clear hb)) | ((with_reducible refine gate_callee (f := 27) rfl ?_); refine goesL_ (some 31) rfl rfl Tryd.func27 (by kernel_rfl) rfl #[.slice A3 l3.length c3] rfl qm ?_; (with_reducible refine (malthouselaw09_cells.calls k _ _ l3 t113 _ ?side1 ?side2 A9.out).mono ?_); (case side1 => exact qC HR3.out); (case side2 => exact HC3.out); rintro e w' ⟨rfl, ⟨nd, rfl⟩⟩; refine ⟨_, rfl, ?_⟩))
   (try simp only [Act.put, List.setIfInBounds_toArray, List.set_cons_zero, List.set_cons_succ])
   go_cut [56] (fun v56 wc => ∃ (kq : Nat) (x56_9 : Bool), v56 = .bool x56_9 ∧ Aside0 (malthouselaw09_RungBehind.j0 kq l0 l2 l3 t102 y109 x56_9 = some r) ∧ Aside0 (kq ≤ k) ∧ Aside0 (Kd.V k43 43 wc w.heap.size (fun k_ => ((P0_ k_ ∨ P1_2_ k_) ∨ w.heap.size ≤ k_) ∧ some k_ ≠ ((.slice Ao20 y109.length co20) : Value).ownBlock ∧ k_ ≠ gb101) (.slice A0 l0.length c0) l0) ∧ Aside0 (Kd.N k43 43 wc w.heap.size (fun k_ => ((P0_ k_ ∨ P1_2_ k_) ∨ w.heap.size ≤ k_) ∧ k_ ≠ gb101) (.slice Ao20 y109.length co20) y109) ∧ Aside0 (Kd.V k40 40 wc w.heap.size (fun k_ => ((P0_ k_ ∨ P1_2_ k_) ∨ w.heap.size ≤ k_) ∧ some k_ ≠ ((.slice Ao20 y109.length co20) : Value).ownBlock ∧ k_ ≠ gb101) (.slice A1_2 l1_2.length c1_2) l1_2) ∧ Aside0 (wc.heap[gb101]? = some (.cells #[.int .i64 a1_0, .string a1_1, (.slice A1_2 l1_2.length c1_2)] 43 (0, 0))) ∧ Aside0 (Below w.heap.size w wc))
   case first =>
    have H := HC10.out
    clear HC10
    by_cases c22 : t102 = true
    ·subst c22
     rw [if_pos rfl] at H
     by_cases c23 : t112 = true
     ·subst c23
      rw [if_pos rfl] at H
      by_cases c24 : t113 = true
      ·subst c24
       rw [if_pos rfl] at H
       by_cases c25 : (l2.length : Int) > 1000
       ·rw [if_pos c25] at H
        have c25b0 : decide (1000 < (l2.length : Int)) = true := decide_eq_true c25
        have c25b1 : decide (1000 < l2.length) = true := decide_eq_true (by omega)
        clear c25
        (first | rw [c25b0] | (simp only [i64_w, i32_w]; rw [c25b0]) | skip)
        have H' := Aside0.mk H
        clear H
        go_wp2
        go_meet
        case rel => exact ⟨_, (true), qv, H', ql, ⟨by (with_reducible repeat (first | apply Kd.V_alloc | apply Kd.V_drewN | apply Kd.V_drew)); exact Kd.V_mono HO0.out (fun _ hk => ⟨hk.1.1, ⟨hk.2, hk.1.2.2⟩⟩)⟩, ⟨by (with_reducible repeat (first | apply Kd.N_alloc | apply Kd.N_drewN | apply Kd.N_drew)); exact HO111.out⟩, ⟨by (with_reducible repeat (first | apply Kd.V_alloc | apply Kd.V_drewN | apply Kd.V_drew)); exact Kd.V_mono HO1_2.out (fun _ hk => ⟨hk.1.1, ⟨hk.2, hk.1.2.2⟩⟩)⟩, qk, qB⟩
       ·rw [if_neg c25] at H
        have c25b0 : decide (1000 < (l2.length : Int)) = false := decide_eq_false c25
        have c25b1 : decide (1000 < l2.length) = false := decide_eq_false (by omega)
        clear c25
        (first | rw [c25b0] | (simp only [i64_w, i32_w]; rw [c25b0]) | skip)
        by_cases c26 : a1_0 = 3
        ·rw [if_pos c26] at H
         obtain ⟨c26b0, c26b1⟩ := qe c26
         clear c26
         have H' := Aside0.mk H
         clear H
         obtain ⟨_, _, _, _, _, _⟩ := q3 BK101.out
         go_wp2
         go_meet
         case rel => exact ⟨_, (false), qv, H', ql, ⟨by (with_reducible repeat (first | apply Kd.V_alloc | apply Kd.V_drewN | apply Kd.V_drew)); exact Kd.V_mono HO0.out (fun _ hk => ⟨hk.1.1, ⟨hk.2, hk.1.2.2⟩⟩)⟩, ⟨by (with_reducible repeat (first | apply Kd.N_alloc | apply Kd.N_drewN | apply Kd.N_drew)); exact HO111.out⟩, ⟨by (with_reducible repeat (first | apply Kd.V_alloc | apply Kd.V_drewN | apply Kd.V_drew)); exact Kd.V_mono HO1_2.out (fun _ hk => ⟨hk.1.1, ⟨hk.2, hk.1.2.2⟩⟩)⟩, qk, qB⟩
        ·rw [if_neg c26] at H
         obtain ⟨c26b0, c26b1⟩ := qd c26
         have H' := Aside0.mk H
         clear H
         obtain ⟨_, _, _, _, _, _⟩ := q3 BK101.out
         go_wp2
         go_meet
         case rel => exact ⟨_, ((a1_0 != 4)), qv, H', ql, ⟨by (with_reducible repeat (first | apply Kd.V_alloc | apply Kd.V_drewN | apply Kd.V_drew)); exact Kd.V_mono HO0.out (fun _ hk => ⟨hk.1.1, ⟨hk.2, hk.1.2.2⟩⟩)⟩, ⟨by (with_reducible repeat (first | apply Kd.N_alloc | apply Kd.N_drewN | apply Kd.N_drew)); exact HO111.out⟩, ⟨by (with_reducible repeat (first | apply Kd.V_alloc | apply Kd.V_drewN | apply Kd.V_drew)); exact Kd.V_mono HO1_2.out (fun _ hk => ⟨hk.1.1, ⟨hk.2, hk.1.2.2⟩⟩)⟩, qk, qB⟩
      ·replace c24 := Bool.eq_false_iff.mpr c24
       subst c24
       rw [if_neg qf] at H
       have H' := Aside0.mk H
       clear H
       go_wp2
       go_meet
       case rel => exact ⟨_, (true), qv, H', ql, ⟨by (with_reducible repeat (first | apply Kd.V_alloc | apply Kd.V_drewN | apply Kd.V_drew)); exact Kd.V_mono HO0.out (fun _ hk => ⟨hk.1.1, ⟨hk.2, hk.1.2.2⟩⟩)⟩, ⟨by (with_reducible repeat (first | apply Kd.N_alloc | apply Kd.N_drewN | apply Kd.N_drew)); exact HO111.out⟩, ⟨by (with_reducible repeat (first | apply Kd.V_alloc | apply Kd.V_drewN | apply Kd.V_drew)); exact Kd.V_mono HO1_2.out (fun _ hk => ⟨hk.1.1, ⟨hk.2, hk.1.2.2⟩⟩)⟩, qk, qB⟩
     ·replace c23 := Bool.eq_false_iff.mpr c23
      subst c23
      rw [if_neg qf] at H
      have H' := Aside0.mk H
      clear H
      go_wp2
      go_meet
      case rel => exact ⟨_, (true), qv, H', ql, ⟨by (with_reducible repeat (first | apply Kd.V_alloc | apply Kd.V_drewN | apply Kd.V_drew)); exact Kd.V_mono HO0.out (fun _ hk => ⟨hk.1.1, ⟨hk.2, hk.1.2.2⟩⟩)⟩, ⟨by (with_reducible repeat (first | apply Kd.N_alloc | apply Kd.N_drewN | apply Kd.N_drew)); exact HO111.out⟩, ⟨by (with_reducible repeat (first | apply Kd.V_alloc | apply Kd.V_drewN | apply Kd.V_drew)); exact Kd.V_mono HO1_2.out (fun _ hk => ⟨hk.1.1, ⟨hk.2, hk.1.2.2⟩⟩)⟩, qk, qB⟩
    ·replace c22 := Bool.eq_false_iff.mpr c22
     subst c22
     rw [if_neg qf] at H
     have H' := Aside0.mk H
     clear H
     go_wp2
     go_meet
     case rel => exact ⟨_, (true), qv, H', ql, ⟨by (with_reducible repeat (first | apply Kd.V_alloc | apply Kd.V_drewN | apply Kd.V_drew)); exact Kd.V_mono HO0.out (fun _ hk => ⟨hk.1.1, ⟨hk.2, hk.1.2.2⟩⟩)⟩, ⟨by (with_reducible repeat (first | apply Kd.N_alloc | apply Kd.N_drewN | apply Kd.N_drew)); exact HO111.out⟩, ⟨by (with_reducible repeat (first | apply Kd.V_alloc | apply Kd.V_drewN | apply Kd.V_drew)); exact Kd.V_mono HO1_2.out (fun _ hk => ⟨hk.1.1, ⟨hk.2, hk.1.2.2⟩⟩)⟩, qk, qB⟩
   case rest =>
    clear HC10
    obtain ⟨kq, x56_9, rfl, HA, HJ9, HO_0, HO_10, HO_102002, BK101, HB⟩ := hcut
    cases kq with
    | zero => exact absurd HA.out (by simp [malthouselaw09_RungBehind.j0])
    | succ kj9 =>
     have H := HA.out
     clear HA
     simp only [malthouselaw09_RungBehind.j0] at H
     by_cases c29 : x56_9 = true
     ·subst c29
      rw [if_pos rfl] at H
      obtain rfl := Option.some.inj H
      go_wp2
      go_ret
      exact qr
     ·replace c29 := Bool.eq_false_iff.mpr c29
      subst c29
      rw [if_neg qf] at H
      replace H := qi H
      obtain ⟨⟨t114, t115, t116⟩, A30, H⟩ := H
      replace H : ((rung_Run.f kj9 y109 l2 l3).bind fun bt123 => (if (bt123.1.length : Int) = 0 then (malthouselaw09_RungBehind.j1 kj9 t114 t115 t116 bt123.1 bt123.2.1 bt123.2.2 ((wrap64 ((bt123.2.1.length : Int) + (bt123.2.2.length : Int))) == 0)) else (malthouselaw09_RungBehind.j1 kj9 t114 t115 t116 bt123.1 bt123.2.1 bt123.2.2 false))) = some r := H
      replace H := qi H
      obtain ⟨⟨t123, t124, t125⟩, A31, H⟩ := H
      replace H : (if (t123.length : Int) = 0 then (malthouselaw09_RungBehind.j1 kj9 t114 t115 t116 t123 t124 t125 ((wrap64 ((t124.length : Int) + (t125.length : Int))) == 0)) else (malthouselaw09_RungBehind.j1 kj9 t114 t115 t116 t123 t124 t125 false)) = some r := H
      have HC32 := Aside0.mk H
      clear H
      go_upto_region 9 with (first | ((with_reducible refine gate_callee (f := 31) rfl ?_); refine goesL_ (some 62) rfl rfl Tryd.func31 (by kernel_rfl) rfl #[.slice A0 l0.length c0, .slice A2 l2.length c2, .slice A3 l3.length c3] rfl qm ?_; (with_reducible refine (rung_Run.calls kj9 _ _ l0 _ _ l2 _ _ l3 t114 t115 t116 _ ?side1 ?side2 ?side3 ?side4 ?side5 ?side6 A30.out (by first | exact HT0.out | exact UT.below HT0.out (by repeat (first | exact HB.out | exact Below.refl _ _ | apply below_alloc | apply pw_below_drewN | apply below_drew1)))).mono ?_); (case side1 => repeat (first | exact (Kd.V_reads' HO_0.out).2.2 | (with_reducible refine Kd.C_alloc ?_ _) | (with_reducible refine Kd.C_drewN ?_ _) | (with_reducible refine Kd.C_drew ?_))); (case side2 => exact (Kd.V_reads' HO_0.out).2.1); (case side3 => exact qC HR2.out); (case side4 => exact HC2.out); (case side5 => exact qC HR3.out); (case side6 => exact HC3.out); rintro e w33 ⟨v117, v119, v121, rfl, ho0, ho1, ho2, hb⟩; refine ⟨_, rfl, ?_⟩; have n0_ := Aside0.mk (Kd.V_mono (Kd.V_told (Kd.V_told (Kd.V_told (Kd.V_old (by (with_reducible repeat (first | apply Kd.V_alloc | apply Kd.V_drewN | apply Kd.V_drew)); exact HO_0.out) hb) (Kd.R_base ho0)) (Kd.R_base ho1)) (Kd.R_base ho2)) (fun _ h_ => h_.1)); have n1_ := Aside0.mk (Kd.N_mono (Kd.N_told (Kd.N_told (Kd.N_told (Kd.N_old (by (with_reducible repeat (first | apply Kd.N_alloc | apply Kd.N_drewN | apply Kd.N_drew)); exact HO_10.out) hb) (Kd.R_base ho0)) (Kd.R_base ho1)) (Kd.R_base ho2)) (fun _ h_ => h_.1)); have n2_ := Aside0.mk (Kd.V_mono (Kd.V_told (Kd.V_told (Kd.V_told (Kd.V_old (by (with_reducible repeat (first | apply Kd.V_alloc | apply Kd.V_drewN | apply Kd.V_drew)); exact HO_102002.out) hb) (Kd.R_base ho0)) (Kd.R_base ho1)) (Kd.R_base ho2)) (fun _ h_ => h_.1)); have n3_ := Aside0.mk (Kd.R_lower (Kd.R_newM (M := fun k_ => (w.heap.size ≤ k_)) ho0 (below_size qb) (fun k_ h_ => h_)) (below_size qb)); have n4_ := Aside0.mk (Kd.R_lower (Kd.R_newM (M := fun k_ => (w.heap.size ≤ k_)) ho1 (below_size qb) (fun k_ h_ => h_)) (below_size qb)); have n5_ := Aside0.mk (Kd.R_lower (Kd.R_newM (M := fun k_ => (w.heap.size ≤ k_)) ho2 (below_size qb) (fun k_ h_ => h_)) (below_size qb)); have n6_ := qn (g := gb101) hb; have n7_ := qs hb; clear HO_0; clear HO_10; clear HO_102002; clear BK101; clear HB; have HO_0 := n0_; have HO_10 := n1_; have HO_102002 := n2_; have HO118 := n3_; have HO120 := n4_; have HO122 := n5_; have BK101 := n6_; have HB := n7_; clear n0_ n1_ n2_ n3_ n4_ n5_ n6_ n7_; (try clear hb); (try clear ho0); (try clear ho1); (try clear ho2)) | ((with_reducible refine gate_callee (f := 31) rfl ?_); refine goesL_ (some 70) rfl rfl Tryd.func31 (by kernel_rfl) rfl #[.slice Ao20 y109.length co20, .slice A2 l2.length c2, .slice A3 l3.length c3] rfl qm ?_; (with_reducible refine (rung_Run.calls kj9 _ _ y109 _ _ l2 _ _ l3 t123 t124 t125 _ ?side1 ?side2 ?side3 ?side4 ?side5 ?side6 A31.out (by first | exact HT0.out | exact UT.below HT0.out (by repeat (first | exact HB.out | exact Below.refl _ _ | apply below_alloc | apply pw_below_drewN | apply below_drew1)))).mono ?_); (case side1 => repeat (first | exact (Kd.N_reads' HO_10.out).2.2 | (with_reducible refine Kd.C_alloc ?_ _) | (with_reducible refine Kd.C_drewN ?_ _) | (with_reducible refine Kd.C_drew ?_))); (case side2 => exact (Kd.N_reads' HO_10.out).2.1); (case side3 => exact qC HR2.out); (case side4 => exact HC2.out); (case side5 => exact qC HR3.out); (case side6 => exact HC3.out); rintro e w34 ⟨v126, v128, v130, rfl, ho0, ho1, ho2, hb⟩; refine ⟨_, rfl, ?_⟩; have n0_ := Aside0.mk (Kd.V_mono (Kd.V_told (Kd.V_told (Kd.V_told (Kd.V_old (by (with_reducible repeat (first | apply Kd.V_alloc | apply Kd.V_drewN | apply Kd.V_drew)); exact HO_0.out) hb) (Kd.R_base ho0)) (Kd.R_base ho1)) (Kd.R_base ho2)) (fun _ h_ => h_.1)); have n1_ := Aside0.mk (Kd.N_mono (Kd.N_told (Kd.N_told (Kd.N_told (Kd.N_old (by (with_reducible repeat (first | apply Kd.N_alloc | apply Kd.N_drewN | apply Kd.N_drew)); exact HO_10.out) hb) (Kd.R_base ho0)) (Kd.R_base ho1)) (Kd.R_base ho2)) (fun _ h_ => h_.1)); have n2_ := Aside0.mk (Kd.V_mono (Kd.V_told (Kd.V_told (Kd.V_told (Kd.V_old (by (with_reducible repeat (first | apply Kd.V_alloc | apply Kd.V_drewN | apply Kd.V_drew)); exact HO_102002.out) hb) (Kd.R_base ho0)) (Kd.R_base ho1)) (Kd.R_base ho2)) (fun _ h_ => h_.1)); have n3_ := Aside0.mk (Kd.R_elder' (by (with_reducible repeat (first | apply Kd.R_alloc | apply Kd.R_drewN | apply Kd.R_drew)); exact HO118.out) (Kd.R_base ho0) hb); have n4_ := Aside0.mk (Kd.R_mono (Kd.R_told (Kd.R_told (Kd.R_old (by (with_reducible repeat (first | apply Kd.R_alloc | apply Kd.R_drewN | apply Kd.R_drew)); exact HO120.out) hb) (Kd.R_base ho1)) (Kd.R_base ho2)) (fun _ h_ => h_.1)); have n5_ := Aside0.mk (Kd.R_mono (Kd.R_told (Kd.R_told (Kd.R_old (by (with_reducible repeat (first | apply Kd.R_alloc | apply Kd.R_drewN | apply Kd.R_drew)); exact HO122.out) hb) (Kd.R_base ho1)) (Kd.R_base ho2)) (fun _ h_ => h_.1)); have n6_ := Aside0.mk (Kd.R_lower (Kd.R_new' (Kd.R_newM (M := fun k_ => (w.heap.size ≤ k_)) ho0 (below_size qb) (fun k_ h_ => h_)) (Kd.R_lt (by (with_reducible repeat (first | apply Kd.R_alloc | apply Kd.R_drewN | apply Kd.R_drew)); exact HO118.out))) (below_size qb)); have n7_ := Aside0.mk (Kd.R_lower (Kd.R_new' (Kd.R_new' (Kd.R_newM (M := fun k_ => (w.heap.size ≤ k_)) ho1 (below_size qb) (fun k_ h_ => h_)) (Kd.R_lt (by (with_reducible repeat (first | apply Kd.R_alloc | apply Kd.R_drewN | apply Kd.R_drew)); exact HO120.out))) (Kd.R_lt (by (with_reducible repeat (first | apply Kd.R_alloc | apply Kd.R_drewN | apply Kd.R_drew)); exact HO122.out))) (below_size qb)); have n8_ := Aside0.mk (Kd.R_lower (Kd.R_new' (Kd.R_new' (Kd.R_newM (M := fun k_ => (w.heap.size ≤ k_)) ho2 (below_size qb) (fun k_ h_ => h_)) (Kd.R_lt (by (with_reducible repeat (first | apply Kd.R_alloc | apply Kd.R_drewN | apply Kd.R_drew)); exact HO120.out))) (Kd.R_lt (by (with_reducible repeat (first | apply Kd.R_alloc | apply Kd.R_drewN | apply Kd.R_drew)); exact HO122.out))) (below_size qb)); have n9_ := qn (g := gb101) hb; have n10_ := qs hb; clear HO_0; clear HO_10; clear HO_102002; clear HO118; clear HO120; clear HO122; clear BK101; clear HB; have HO_0 := n0_; have HO_10 := n1_; have HO_102002 := n2_; have HO118 := n3_; have HO120 := n4_; have HO122 := n5_; have HO127 := n6_; have HO129 := n7_; have HO131 := n8_; have BK101 := n9_; have HB := n10_; clear n0_ n1_ n2_ n3_ n4_ n5_ n6_ n7_ n8_ n9_ n10_; (try clear hb); (try clear ho0); (try clear ho1); (try clear ho2)))
      (try simp only [Act.put, List.setIfInBounds_toArray, List.set_cons_zero, List.set_cons_succ])
      go_cut [84] (fun v84 wc => ∃ (kq : Nat) (x84_31 : Bool), v84 = .bool x84_31 ∧ Aside0 (malthouselaw09_RungBehind.j1 kq t114 t115 t116 t123 t124 t125 x84_31 = some r) ∧ Aside0 (kq ≤ kj9) ∧ Aside0 (Kd.R Kd.bool 4 wc w.heap.size (fun k_ => (w.heap.size ≤ k_) ∧ some k_ ≠ (v126 : Value).ownBlock) v117 t114) ∧ Aside0 (Kd.R Kd.string 9 wc w.heap.size (fun k_ => (w.heap.size ≤ k_) ∧ some k_ ≠ (v121 : Value).ownBlock ∧ some k_ ≠ (v128 : Value).ownBlock ∧ some k_ ≠ (v130 : Value).ownBlock) v119 t115) ∧ Aside0 (Kd.R Kd.string 9 wc w.heap.size (fun k_ => (w.heap.size ≤ k_) ∧ some k_ ≠ (v119 : Value).ownBlock ∧ some k_ ≠ (v128 : Value).ownBlock ∧ some k_ ≠ (v130 : Value).ownBlock) v121 t116) ∧ Aside0 (Kd.R Kd.bool 4 wc w.heap.size (fun k_ => (w.heap.size ≤ k_) ∧ some k_ ≠ (v117 : Value).ownBlock) v126 t123) ∧ Aside0 (Kd.R Kd.string 9 wc w.heap.size (fun k_ => (w.heap.size ≤ k_) ∧ some k_ ≠ (v119 : Value).ownBlock ∧ some k_ ≠ (v121 : Value).ownBlock ∧ some k_ ≠ (v130 : Value).ownBlock) v128 t124) ∧ Aside0 (Kd.R Kd.string 9 wc w.heap.size (fun k_ => (w.heap.size ≤ k_) ∧ some k_ ≠ (v119 : Value).ownBlock ∧ some k_ ≠ (v121 : Value).ownBlock ∧ some k_ ≠ (v128 : Value).ownBlock) v130 t125) ∧ Aside0 (Kd.V k40 40 wc w.heap.size (fun k_ => ((P0_ k_ ∨ P1_2_ k_) ∨ w.heap.size ≤ k_) ∧ some k_ ≠ (v117 : Value).ownBlock ∧ some k_ ≠ (v119 : Value).ownBlock ∧ some k_ ≠ (v121 : Value).ownBlock ∧ some k_ ≠ (v126 : Value).ownBlock ∧ some k_ ≠ (v128 : Value).ownBlock ∧ some k_ ≠ (v130 : Value).ownBlock ∧ k_ ≠ gb101) (.slice A1_2 l1_2.length c1_2) l1_2) ∧ Aside0 (wc.heap[gb101]? = some (.cells #[.int .i64 a1_0, .string a1_1, (.slice A1_2 l1_2.length c1_2)] 43 (0, 0))) ∧ Aside0 (Below w.heap.size w wc))
      case first =>
       have H := HC32.out
       clear HC32
       by_cases c35 : (t123.length : Int) = 0
       ·rw [if_pos c35] at H
        obtain ⟨c35b0, c35b1⟩ := qe c35
        clear c35
        (first | rw [c35b0] | (simp only [i64_w, i32_w]; rw [c35b0]) | skip)
        have H' := Aside0.mk H
        clear H
        obtain ⟨Ao36, co36, eo36⟩ := Kd.R_slice HO127.out
        subst eo36
        obtain ⟨Ao37, co37, eo37⟩ := Kd.R_slice HO129.out
        subst eo37
        obtain ⟨Ao38, co38, eo38⟩ := Kd.R_slice HO131.out
        subst eo38
        go_wp2
        go_meet
        case rel => exact ⟨_, (((wrap64 ((t124.length : Int) + (t125.length : Int))) == 0)), qv, H', ⟨by have := HJ9.out; first | omega | exact Nat.le_refl _⟩, ⟨by (with_reducible repeat (first | apply Kd.R_alloc | apply Kd.R_drewN | apply Kd.R_drew)); exact Kd.R_mono HO118.out (fun _ hk => ⟨hk.1.1, hk.2⟩)⟩, ⟨by (with_reducible repeat (first | apply Kd.R_alloc | apply Kd.R_drewN | apply Kd.R_drew)); exact Kd.R_mono HO120.out (fun _ hk => ⟨hk.1.1.1, ⟨hk.1.1.2, ⟨hk.1.2, hk.2⟩⟩⟩)⟩, ⟨by (with_reducible repeat (first | apply Kd.R_alloc | apply Kd.R_drewN | apply Kd.R_drew)); exact Kd.R_mono HO122.out (fun _ hk => ⟨hk.1.1.1, ⟨hk.1.1.2, ⟨hk.1.2, hk.2⟩⟩⟩)⟩, ⟨by (with_reducible repeat (first | apply Kd.R_alloc | apply Kd.R_drewN | apply Kd.R_drew)); exact Kd.R_mono HO127.out (fun _ hk => ⟨hk.1.1, hk.2⟩)⟩, ⟨by (with_reducible repeat (first | apply Kd.R_alloc | apply Kd.R_drewN | apply Kd.R_drew)); exact Kd.R_mono HO129.out (fun _ hk => ⟨hk.1.1.1, ⟨hk.1.2, ⟨hk.2, hk.1.1.2⟩⟩⟩)⟩, ⟨by (with_reducible repeat (first | apply Kd.R_alloc | apply Kd.R_drewN | apply Kd.R_drew)); exact Kd.R_mono HO131.out (fun _ hk => ⟨hk.1.1.1, ⟨hk.1.2, ⟨hk.2, hk.1.1.2⟩⟩⟩)⟩, ⟨by (with_reducible repeat (first | apply Kd.V_alloc | apply Kd.V_drewN | apply Kd.V_drew)); exact Kd.V_mono HO_102002.out (fun _ hk => ⟨hk.1.1.1.1.1.1.1, ⟨hk.1.1.1.1.1.2, ⟨hk.1.1.1.1.2, ⟨hk.1.1.1.2, ⟨hk.1.1.2, ⟨hk.1.2, ⟨hk.2, hk.1.1.1.1.1.1.2.2⟩⟩⟩⟩⟩⟩⟩)⟩, qk, qB⟩
       ·rw [if_neg c35] at H
        obtain ⟨c35b0, c35b1⟩ := qd c35
        have c35b2 : ¬ (t123 = []) := fun h_ => c35 (by rw [h_]; rfl)
        (first | rw [c35b0] | (simp only [i64_w, i32_w]; rw [c35b0]) | skip)
        have H' := Aside0.mk H
        clear H
        obtain ⟨Ao39, co39, eo39⟩ := Kd.R_slice HO127.out
        subst eo39
        go_wp2
        go_meet
        case rel => exact ⟨_, (false), qv, H', ⟨by have := HJ9.out; first | omega | exact Nat.le_refl _⟩, ⟨by (with_reducible repeat (first | apply Kd.R_alloc | apply Kd.R_drewN | apply Kd.R_drew)); exact Kd.R_mono HO118.out (fun _ hk => ⟨hk.1.1, hk.2⟩)⟩, ⟨by (with_reducible repeat (first | apply Kd.R_alloc | apply Kd.R_drewN | apply Kd.R_drew)); exact Kd.R_mono HO120.out (fun _ hk => ⟨hk.1.1.1, ⟨hk.1.1.2, ⟨hk.1.2, hk.2⟩⟩⟩)⟩, ⟨by (with_reducible repeat (first | apply Kd.R_alloc | apply Kd.R_drewN | apply Kd.R_drew)); exact Kd.R_mono HO122.out (fun _ hk => ⟨hk.1.1.1, ⟨hk.1.1.2, ⟨hk.1.2, hk.2⟩⟩⟩)⟩, ⟨by (with_reducible repeat (first | apply Kd.R_alloc | apply Kd.R_drewN | apply Kd.R_drew)); exact Kd.R_mono HO127.out (fun _ hk => ⟨hk.1.1, hk.2⟩)⟩, ⟨by (with_reducible repeat (first | apply Kd.R_alloc | apply Kd.R_drewN | apply Kd.R_drew)); exact Kd.R_mono HO129.out (fun _ hk => ⟨hk.1.1.1, ⟨hk.1.2, ⟨hk.2, hk.1.1.2⟩⟩⟩)⟩, ⟨by (with_reducible repeat (first | apply Kd.R_alloc | apply Kd.R_drewN | apply Kd.R_drew)); exact Kd.R_mono HO131.out (fun _ hk => ⟨hk.1.1.1, ⟨hk.1.2, ⟨hk.2, hk.1.1.2⟩⟩⟩)⟩, ⟨by (with_reducible repeat (first | apply Kd.V_alloc | apply Kd.V_drewN | apply Kd.V_drew)); exact Kd.V_mono HO_102002.out (fun _ hk => ⟨hk.1.1.1.1.1.1.1, ⟨hk.1.1.1.1.1.2, ⟨hk.1.1.1.1.2, ⟨hk.1.1.1.2, ⟨hk.1.1.2, ⟨hk.1.2, ⟨hk.2, hk.1.1.1.1.1.1.2.2⟩⟩⟩⟩⟩⟩⟩)⟩, qk, qB⟩
      case rest =>
       clear HC32
       obtain ⟨kq, x84_31, rfl, HA, HJ31, HO_13, HO_14, HO_15, HO_16, HO_17, HO_18, HO_102002, BK101, HB⟩ := hcut
       cases kq with
       | zero => exact absurd HA.out (by simp [malthouselaw09_RungBehind.j1])
       | succ kj31 =>
        have H := HA.out
        clear HA
        simp only [malthouselaw09_RungBehind.j1] at H
        by_cases c40 : x84_31 = true
        ·subst c40
         rw [if_pos rfl] at H
         obtain rfl := Option.some.inj H
         go_wp2
         go_ret
         exact qr
        ·replace c40 := Bool.eq_false_iff.mpr c40
         subst c40
         rw [if_neg qf] at H
         have HC41 := Aside0.mk H
         clear H
         go_upto_region 11 with (fail)
         go_cut [110] (fun v110 wc => ∃ (kq : Nat) (x110_40 : Bool), v110 = .bool x110_40 ∧ Aside0 (malthouselaw09_RungBehind.j2 kq t114 t115 t116 t123 t124 t125 x110_40 = some r) ∧ Aside0 (kq ≤ kj31) ∧ Aside0 (Kd.R Kd.bool 4 wc w.heap.size (fun k_ => (w.heap.size ≤ k_) ∧ some k_ ≠ (v126 : Value).ownBlock) v117 t114) ∧ Aside0 (Kd.R Kd.string 9 wc w.heap.size (fun k_ => (w.heap.size ≤ k_) ∧ some k_ ≠ (v121 : Value).ownBlock ∧ some k_ ≠ (v128 : Value).ownBlock ∧ some k_ ≠ (v130 : Value).ownBlock) v119 t115) ∧ Aside0 (Kd.R Kd.string 9 wc w.heap.size (fun k_ => (w.heap.size ≤ k_) ∧ some k_ ≠ (v119 : Value).ownBlock ∧ some k_ ≠ (v128 : Value).ownBlock ∧ some k_ ≠ (v130 : Value).ownBlock) v121 t116) ∧ Aside0 (Kd.R Kd.bool 4 wc w.heap.size (fun k_ => (w.heap.size ≤ k_) ∧ some k_ ≠ (v117 : Value).ownBlock) v126 t123) ∧ Aside0 (Kd.R Kd.string 9 wc w.heap.size (fun k_ => (w.heap.size ≤ k_) ∧ some k_ ≠ (v119 : Value).ownBlock ∧ some k_ ≠ (v121 : Value).ownBlock ∧ some k_ ≠ (v130 : Value).ownBlock) v128 t124) ∧ Aside0 (Kd.R Kd.string 9 wc w.heap.size (fun k_ => (w.heap.size ≤ k_) ∧ some k_ ≠ (v119 : Value).ownBlock ∧ some k_ ≠ (v121 : Value).ownBlock ∧ some k_ ≠ (v128 : Value).ownBlock) v130 t125) ∧ Aside0 (Kd.V k40 40 wc w.heap.size (fun k_ => ((P0_ k_ ∨ P1_2_ k_) ∨ w.heap.size ≤ k_) ∧ some k_ ≠ (v117 : Value).ownBlock ∧ some k_ ≠ (v119 : Value).ownBlock ∧ some k_ ≠ (v121 : Value).ownBlock ∧ some k_ ≠ (v126 : Value).ownBlock ∧ some k_ ≠ (v128 : Value).ownBlock ∧ some k_ ≠ (v130 : Value).ownBlock ∧ k_ ≠ gb101) (.slice A1_2 l1_2.length c1_2) l1_2) ∧ Aside0 (wc.heap[gb101]? = some (.cells #[.int .i64 a1_0, .string a1_1, (.slice A1_2 l1_2.length c1_2)] 43 (0, 0))) ∧ Aside0 (Below w.heap.size w wc))
         case first =>
          have H := HC41.out
          clear HC41
          by_cases c42 : (t124.length : Int) < (t115.length : Int)
          ·rw [if_pos c42] at H
           have c42b0 : decide ((t124.length : Int) < (t115.length : Int)) = true := decide_eq_true c42
           have c42b1 : decide (t124.length < t115.length) = true := decide_eq_true (Int.ofNat_lt.mp c42)
           clear c42
           (first | rw [c42b0] | (simp only [i64_w, i32_w]; rw [c42b0]) | skip)
           have H' := Aside0.mk H
           clear H
           obtain ⟨Ao43, co43, eo43⟩ := Kd.R_slice HO_17.out
           subst eo43
           obtain ⟨Ao44, co44, eo44⟩ := Kd.R_slice HO_14.out
           subst eo44
           go_wp2
           go_meet
           case rel => exact ⟨_, (true), qv, H', ⟨by have := HJ9.out; have := HJ31.out; first | omega | exact Nat.le_refl _⟩, ⟨by (with_reducible repeat (first | apply Kd.R_alloc | apply Kd.R_drewN | apply Kd.R_drew)); exact HO_13.out⟩, ⟨by (with_reducible repeat (first | apply Kd.R_alloc | apply Kd.R_drewN | apply Kd.R_drew)); exact HO_14.out⟩, ⟨by (with_reducible repeat (first | apply Kd.R_alloc | apply Kd.R_drewN | apply Kd.R_drew)); exact HO_15.out⟩, ⟨by (with_reducible repeat (first | apply Kd.R_alloc | apply Kd.R_drewN | apply Kd.R_drew)); exact HO_16.out⟩, ⟨by (with_reducible repeat (first | apply Kd.R_alloc | apply Kd.R_drewN | apply Kd.R_drew)); exact HO_17.out⟩, ⟨by (with_reducible repeat (first | apply Kd.R_alloc | apply Kd.R_drewN | apply Kd.R_drew)); exact HO_18.out⟩, ⟨by (with_reducible repeat (first | apply Kd.V_alloc | apply Kd.V_drewN | apply Kd.V_drew)); exact HO_102002.out⟩, qk, qB⟩
          ·rw [if_neg c42] at H
           have c42b0 : decide ((t124.length : Int) < (t115.length : Int)) = false := decide_eq_false c42
           have c42b1 : decide (t124.length < t115.length) = false := decide_eq_false (fun h => c42 (Int.ofNat_lt.mpr h))
           clear c42
           (first | rw [c42b0] | (simp only [i64_w, i32_w]; rw [c42b0]) | skip)
           by_cases c45 : (t125.length : Int) < (t116.length : Int)
           ·rw [if_pos c45] at H
            have c45b0 : decide ((t125.length : Int) < (t116.length : Int)) = true := decide_eq_true c45
            have c45b1 : decide (t125.length < t116.length) = true := decide_eq_true (Int.ofNat_lt.mp c45)
            clear c45
            have H' := Aside0.mk H
            clear H
            obtain ⟨Ao46, co46, eo46⟩ := Kd.R_slice HO_17.out
            subst eo46
            obtain ⟨Ao47, co47, eo47⟩ := Kd.R_slice HO_14.out
            subst eo47
            obtain ⟨Ao48, co48, eo48⟩ := Kd.R_slice HO_18.out
            subst eo48
            obtain ⟨Ao49, co49, eo49⟩ := Kd.R_slice HO_15.out
            subst eo49
            go_wp2
            go_meet
            case rel => exact ⟨_, (true), qv, H', ⟨by have := HJ9.out; have := HJ31.out; first | omega | exact Nat.le_refl _⟩, ⟨by (with_reducible repeat (first | apply Kd.R_alloc | apply Kd.R_drewN | apply Kd.R_drew)); exact HO_13.out⟩, ⟨by (with_reducible repeat (first | apply Kd.R_alloc | apply Kd.R_drewN | apply Kd.R_drew)); exact HO_14.out⟩, ⟨by (with_reducible repeat (first | apply Kd.R_alloc | apply Kd.R_drewN | apply Kd.R_drew)); exact HO_15.out⟩, ⟨by (with_reducible repeat (first | apply Kd.R_alloc | apply Kd.R_drewN | apply Kd.R_drew)); exact HO_16.out⟩, ⟨by (with_reducible repeat (first | apply Kd.R_alloc | apply Kd.R_drewN | apply Kd.R_drew)); exact HO_17.out⟩, ⟨by (with_reducible repeat (first | apply Kd.R_alloc | apply Kd.R_drewN | apply Kd.R_drew)); exact HO_18.out⟩, ⟨by (with_reducible repeat (first | apply Kd.V_alloc | apply Kd.V_drewN | apply Kd.V_drew)); exact HO_102002.out⟩, qk, qB⟩
           ·rw [if_neg c45] at H
            have c45b0 : decide ((t125.length : Int) < (t116.length : Int)) = false := decide_eq_false c45
            have c45b1 : decide (t125.length < t116.length) = false := decide_eq_false (fun h => c45 (Int.ofNat_lt.mpr h))
            clear c45
            have H' := Aside0.mk H
            clear H
            obtain ⟨Ao50, co50, eo50⟩ := Kd.R_slice HO_17.out
            subst eo50
            obtain ⟨Ao51, co51, eo51⟩ := Kd.R_slice HO_14.out
            subst eo51
            obtain ⟨Ao52, co52, eo52⟩ := Kd.R_slice HO_18.out
            subst eo52
            obtain ⟨Ao53, co53, eo53⟩ := Kd.R_slice HO_15.out
            subst eo53
            go_wp2
            go_meet
            case rel => exact ⟨_, (decide ((wrap64 ((t124.length : Int) + (t125.length : Int))) > (wrap64 ((wrap64 ((t115.length : Int) + (t116.length : Int))) + 1)))), qv, H', ⟨by have := HJ9.out; have := HJ31.out; first | omega | exact Nat.le_refl _⟩, ⟨by (with_reducible repeat (first | apply Kd.R_alloc | apply Kd.R_drewN | apply Kd.R_drew)); exact HO_13.out⟩, ⟨by (with_reducible repeat (first | apply Kd.R_alloc | apply Kd.R_drewN | apply Kd.R_drew)); exact HO_14.out⟩, ⟨by (with_reducible repeat (first | apply Kd.R_alloc | apply Kd.R_drewN | apply Kd.R_drew)); exact HO_15.out⟩, ⟨by (with_reducible repeat (first | apply Kd.R_alloc | apply Kd.R_drewN | apply Kd.R_drew)); exact HO_16.out⟩, ⟨by (with_reducible repeat (first | apply Kd.R_alloc | apply Kd.R_drewN | apply Kd.R_drew)); exact HO_17.out⟩, ⟨by (with_reducible repeat (first | apply Kd.R_alloc | apply Kd.R_drewN | apply Kd.R_drew)); exact HO_18.out⟩, ⟨by (with_reducible repeat (first | apply Kd.V_alloc | apply Kd.V_drewN | apply Kd.V_drew)); exact HO_102002.out⟩, qk, qB⟩
         case rest =>
          clear HC41
          obtain ⟨kq, x110_40, rfl, HA, HJ40, HO_13, HO_14, HO_15, HO_16, HO_17, HO_18, HO_102002, BK101, HB⟩ := hcut
          cases kq with
          | zero => exact absurd HA.out (by simp [malthouselaw09_RungBehind.j2])
          | succ kj40 =>
           have H := HA.out
           clear HA
           simp only [malthouselaw09_RungBehind.j2] at H
           by_cases c54 : x110_40 = true
           ·subst c54
            rw [if_pos rfl] at H
            obtain rfl := Option.some.inj H
            go_wp2
            go_ret
            exact qr
           ·replace c54 := Bool.eq_false_iff.mpr c54
            subst c54
            rw [if_neg qf] at H
            replace H := qi H
            obtain ⟨t132, A55, H⟩ := H
            by_cases c56 : 0 ≤ (t115.length : Int)
            ·rw [if_pos c56] at H
             have c56b0 := eq_true c56
             have c56b1 : decide (0 ≤ (t115.length : Int)) = true := decide_eq_true c56
             clear c56
             by_cases c57 : (t115.length : Int) ≤ (t124.length : Int)
             ·rw [if_pos c57] at H
              have c57b0 := eq_true c57
              have c57b1 : decide ((t115.length : Int) ≤ (t124.length : Int)) = true := decide_eq_true c57
              clear c57
              obtain ⟨y133, hy133⟩ : ∃ y_ : List ByteArray, y_ = (t124.take ((t115.length : Int) : Int).toNat) := ⟨_, rfl⟩
              replace H : ((malthouseref09_Texts.f kj40 y133 t115).bind fun t138 => (if 0 ≤ (t116.length : Int) then (if (t116.length : Int) ≤ (t125.length : Int) then ((malthouseref09_Texts.f kj40 (t125.take ((t116.length : Int) : Int).toNat) t116).bind fun t144 => (if t132 = true then (if t138 = true then (some t144) else (some false)) else (some false))) else (none)) else (none))) = some r := by first | (rw [hy133]; with_reducible exact H) | (have H2_ := (Option.bind_some _ _).symm.trans H; rw [hy133]; with_reducible exact H2_) | (have H2_ := (Option.bind_some _ _).symm.trans H; with_reducible exact H2_) | with_reducible exact H | (rw [hy133]; exact H) | exact H
              have Ny133 := Aside0.mk hy133
              clear hy133
              replace H := qi H
              obtain ⟨t138, A58, H⟩ := H
              by_cases c59 : 0 ≤ (t116.length : Int)
              ·rw [if_pos c59] at H
               have c59b0 := eq_true c59
               have c59b1 : decide (0 ≤ (t116.length : Int)) = true := decide_eq_true c59
               clear c59
               by_cases c60 : (t116.length : Int) ≤ (t125.length : Int)
               ·rw [if_pos c60] at H
                have c60b0 := eq_true c60
                have c60b1 : decide ((t116.length : Int) ≤ (t125.length : Int)) = true := decide_eq_true c60
                clear c60
                obtain ⟨y139, hy139⟩ : ∃ y_ : List ByteArray, y_ = (t125.take ((t116.length : Int) : Int).toNat) := ⟨_, rfl⟩
                replace H : ((malthouseref09_Texts.f kj40 y139 t116).bind fun t144 => (if t132 = true then (if t138 = true then (some t144) else (some false)) else (some false))) = some r := by first | (rw [hy139]; with_reducible exact H) | (have H2_ := (Option.bind_some _ _).symm.trans H; rw [hy139]; with_reducible exact H2_) | (have H2_ := (Option.bind_some _ _).symm.trans H; with_reducible exact H2_) | with_reducible exact H | (rw [hy139]; exact H) | exact H
                have Ny139 := Aside0.mk hy139
                clear hy139
                replace H := qi H
                obtain ⟨t144, A61, H⟩ := H
                by_cases c62 : t132 = true
                ·subst c62
                 rw [if_pos rfl] at H
                 by_cases c63 : t138 = true
                 ·subst c63
                  rw [if_pos rfl] at H
                  obtain rfl := Option.some.inj H
                  obtain ⟨Ao64, co64, eo64⟩ := Kd.R_slice HO_13.out
                  subst eo64
                  obtain ⟨Ao65, co65, eo65⟩ := Kd.R_slice HO_16.out
                  subst eo65
                  go_wp2_with (first | ((with_reducible refine gate_callee (f := 32) rfl ?_); refine goesL_ (some 113) rfl rfl Tryd.func32 (by kernel_rfl) rfl #[.slice Ao64 t114.length co64, .slice Ao65 t123.length co65] rfl qm ?_; (with_reducible refine (malthouseref09_Bools.calls kj40 _ _ t114 _ _ t123 true _ ?side1 ?side2 ?side3 ?side4 A55.out).mono ?_); (case side1 => repeat (first | exact (Kd.R_reads' HO_13.out).2.2 | (with_reducible refine Kd.C_alloc ?_ _) | (with_reducible refine Kd.C_drewN ?_ _) | (with_reducible refine Kd.C_drew ?_))); (case side2 => exact (Kd.R_reads' HO_13.out).2.1); (case side3 => repeat (first | exact (Kd.R_reads' HO_16.out).2.2 | (with_reducible refine Kd.C_alloc ?_ _) | (with_reducible refine Kd.C_drewN ?_ _) | (with_reducible refine Kd.C_drew ?_))); (case side4 => exact (Kd.R_reads' HO_16.out).2.1); rintro e w' ⟨rfl, ⟨nd, rfl⟩⟩; refine ⟨_, rfl, ?_⟩; obtain ⟨Ao66, co66, eo66⟩ := Kd.R_slice HO_14.out; subst eo66; obtain ⟨Ao68, co68, eo68⟩ := Kd.R_slice HO_17.out; subst eo68; have q67 : ((t115.length : Int) : Int) ≤ ((t124.length : Int) : Int) := qa; obtain ⟨i067, hi067, _, hsz67, _⟩ := info_parts info9; have hroom67 : t124.length ≤ co68 := (Kd.R_reads' HO_17.out).2.1; have hC67 : Kd.F Kd.string _ _ Ao68 t124.length t124 := (Kd.V_at (base := w.heap.size) (Kd.V_mono (ok' := (fun k_ => ((((((P0_ k_ ∨ P1_2_ k_) ∨ w.heap.size ≤ k_) ∧ (some k_ ≠ (.slice Ao66 t115.length co66 : Value).ownBlock ∧ (some k_ ≠ (v121 : Value).ownBlock ∧ some k_ ≠ (v130 : Value).ownBlock))) ∧ some k_ ≠ (.slice Ao64 t114.length co64 : Value).ownBlock) ∧ some k_ ≠ (.slice Ao65 t123.length co65 : Value).ownBlock) ∧ k_ ≠ gb101))) (Kd.R_V (Kd.R_types (Kd.R_apart' (Kd.R_apart' (HO_17.out) (Kd.R_typed HO_13.out) (by decide)) (Kd.R_typed HO_16.out) (by decide)) BK101.out (by decide))) (fun k_ hk => ⟨⟨⟨⟨(.inr (hk.1.1.1.1)), ⟨hk.1.1.1.2.1, ⟨hk.1.1.1.2.2.1, hk.1.1.1.2.2.2⟩⟩⟩, hk.1.1.2⟩, hk.1.2⟩, hk.2⟩))).2.2; have hcut67 := cut_to (P := Tryd.prog) 23 9 .i64 Tryd.underlying23 hi067 Ao68 t124.length co68 (t115.length : Int) (qa) q67 hroom67; have hr67 := Kd.F_take (m := ((t115.length : Int) : Int).toNat) hC67 (by omega); have hy67 : y133.length = ((t115.length : Int) : Int).toNat := (by rw [Ny133.out, List.length_take]; omega); rw [← Ny133.out] at hr67; rw [← hy67] at hcut67; have HO137 := Aside0.mk (show Kd.V Kd.string 9 _ w.heap.size _ (.slice Ao68 y133.length co68) y133 from Kd.V_mk (by omega) hr67); have HC137 := Aside0.mk (show y133.length ≤ co68 from by omega); clear hr67 hC67 hroom67 hi067 hsz67; have KY67 := Aside0.mk hy67; clear hy67; replace q67 := eq_true q67) | ((with_reducible refine gate_callee (f := 22) rfl ?_); refine goesL_ (some 119) rfl rfl Tryd.func22 (by kernel_rfl) rfl #[.slice Ao68 y133.length co68, .slice Ao66 t115.length co66] rfl qm ?_; (with_reducible refine (malthouseref09_Texts.calls kj40 _ _ y133 _ _ t115 true _ ?side1 ?side2 ?side3 ?side4 A58.out).mono ?_); (case side1 => repeat (first | exact (Kd.V_reads' HO137.out).2.2 | (with_reducible refine Kd.C_alloc ?_ _) | (with_reducible refine Kd.C_drewN ?_ _) | (with_reducible refine Kd.C_drew ?_))); (case side2 => exact (Kd.V_reads' HO137.out).2.1); (case side3 => repeat (first | exact (Kd.R_reads' HO_14.out).2.2 | (with_reducible refine Kd.C_alloc ?_ _) | (with_reducible refine Kd.C_drewN ?_ _) | (with_reducible refine Kd.C_drew ?_))); (case side4 => exact (Kd.R_reads' HO_14.out).2.1); rintro e w' ⟨rfl, ⟨nd, rfl⟩⟩; refine ⟨_, rfl, ?_⟩; obtain ⟨Ao69, co69, eo69⟩ := Kd.R_slice HO_15.out; subst eo69; obtain ⟨Ao71, co71, eo71⟩ := Kd.R_slice HO_18.out; subst eo71; have q70 : ((t116.length : Int) : Int) ≤ ((t125.length : Int) : Int) := qa; obtain ⟨i070, hi070, _, hsz70, _⟩ := info_parts info9; have hroom70 : t125.length ≤ co71 := (Kd.R_reads' HO_18.out).2.1; have hC70 : Kd.F Kd.string _ _ Ao71 t125.length t125 := (Kd.V_at (base := w.heap.size) (Kd.V_mono (ok' := (fun k_ => ((((((P0_ k_ ∨ P1_2_ k_) ∨ w.heap.size ≤ k_) ∧ (some k_ ≠ (.slice Ao66 t115.length co66 : Value).ownBlock ∧ (some k_ ≠ (.slice Ao69 t116.length co69 : Value).ownBlock ∧ some k_ ≠ (.slice Ao68 t124.length co68 : Value).ownBlock))) ∧ some k_ ≠ (.slice Ao64 t114.length co64 : Value).ownBlock) ∧ some k_ ≠ (.slice Ao65 t123.length co65 : Value).ownBlock) ∧ k_ ≠ gb101))) (Kd.R_V (Kd.R_types (Kd.R_apart' (Kd.R_apart' (HO_18.out) (Kd.R_typed HO_13.out) (by decide)) (Kd.R_typed HO_16.out) (by decide)) BK101.out (by decide))) (fun k_ hk => ⟨⟨⟨⟨(.inr (hk.1.1.1.1)), ⟨hk.1.1.1.2.1, ⟨hk.1.1.1.2.2.1, hk.1.1.1.2.2.2⟩⟩⟩, hk.1.1.2⟩, hk.1.2⟩, hk.2⟩))).2.2; have hcut70 := cut_to (P := Tryd.prog) 23 9 .i64 Tryd.underlying23 hi070 Ao71 t125.length co71 (t116.length : Int) (qa) q70 hroom70; have hr70 := Kd.F_take (m := ((t116.length : Int) : Int).toNat) hC70 (by omega); have hy70 : y139.length = ((t116.length : Int) : Int).toNat := (by rw [Ny139.out, List.length_take]; omega); rw [← Ny139.out] at hr70; rw [← hy70] at hcut70; have HO143 := Aside0.mk (show Kd.V Kd.string 9 _ w.heap.size _ (.slice Ao71 y139.length co71) y139 from Kd.V_mk (by omega) hr70); have HC143 := Aside0.mk (show y139.length ≤ co71 from by omega); clear hr70 hC70 hroom70 hi070 hsz70; have KY70 := Aside0.mk hy70; clear hy70; replace q70 := eq_true q70) | ((with_reducible refine gate_callee (f := 22) rfl ?_); refine goesL_ (some 125) rfl rfl Tryd.func22 (by kernel_rfl) rfl #[.slice Ao71 y139.length co71, .slice Ao69 t116.length co69] rfl qm ?_; (with_reducible refine (malthouseref09_Texts.calls kj40 _ _ y139 _ _ t116 t144 _ ?side1 ?side2 ?side3 ?side4 A61.out).mono ?_); (case side1 => repeat (first | exact (Kd.V_reads' HO143.out).2.2 | (with_reducible refine Kd.C_alloc ?_ _) | (with_reducible refine Kd.C_drewN ?_ _) | (with_reducible refine Kd.C_drew ?_))); (case side2 => exact (Kd.V_reads' HO143.out).2.1); (case side3 => repeat (first | exact (Kd.R_reads' HO_15.out).2.2 | (with_reducible refine Kd.C_alloc ?_ _) | (with_reducible refine Kd.C_drewN ?_ _) | (with_reducible refine Kd.C_drew ?_))); (case side4 => exact (Kd.R_reads' HO_15.out).2.1); rintro e w' ⟨rfl, ⟨nd, rfl⟩⟩; refine ⟨_, rfl, ?_⟩))
                  go_ret
                  exact qr
                 ·replace c63 := Bool.eq_false_iff.mpr c63
                  subst c63
                  rw [if_neg qf] at H
                  exact absurd ((Option.some.inj H).trans HRT.out) (by decide)
                ·replace c62 := Bool.eq_false_iff.mpr c62
                 subst c62
                 rw [if_neg qf] at H
                 exact absurd ((Option.some.inj H).trans HRT.out) (by decide)
               ·rw [if_neg c60] at H
                exact absurd H (by simp)
              ·rw [if_neg c59] at H
               exact absurd H (by simp)
             ·rw [if_neg c57] at H
              exact absurd H (by simp)
            ·rw [if_neg c56] at H
             exact absurd H (by simp)
  ·rw [if_neg c7] at H
   exact absurd H (by simp)
 ·rw [if_neg c6] at H
  exact absurd H (by simp)
end Go.Proofs.YtiaccdaeomaogaaDoor.F
