/- Texts of one claim, slimmed and merged by slim.py. -/
import Derived.Test.YtiaccdaeomaogaaDoorR4
import Derived.Test.YtiaccdaeomaogaaDoorR7
import Derived.Test.YtiaccdaeomaogaaDoorR9
import Derived.Test.YtiaccdaeomaogaaDoorR12
import Derived.Test.YtiaccdaeomaogaaDoorR16
import Derived.Test.YtiaccdaeomaogaaDoorR21
namespace Go.Proofs.YtiaccdaeomaogaaDoor.F
open Go.RowKit Go.Proofs.YtiaccdaeomaogaaDoorW.PrintWords Go.Proofs.YtiaccdaeomaogaaDoorW.PrintLast Go.Proofs.YtiaccdaeomaogaaDoorW.PrintMore
attribute [local go_sem] max2_int min2_int max_two min_two max_three min_three max_four min_four   -- for this text's walks alone
set_option linter.unusedVariables false
set_option linter.unusedSimpArgs false
mutual
def rung_code.l0 : Nat → List ByteArray → List ByteArray → Int → List (S40) → Int → Int → Option (Int)
  | 0, _, _, _, _, _, _ => none
  | k + 1, x1, x2, x7, x17, x18, x19 => if x19 < x18 then (if 0 ≤ x19 then (if x19 < (x17.length : Int) then ((rung_named.f k ((rd_T40 x17 x19).f0)).bind fun bt103 => (if bt103.2.2.2 = true then (if bt103.1 = true then (if ((rd_T40 x17 x19).f0) = 2 then (rung_code.j1 k x1 x2 x7 bt103.1 bt103.2.1 bt103.2.2.1 x17 x18 x19 false ((rd_T40 x17 x19).f0) ((rd_T40 x17 x19).f1) ((rd_T40 x17 x19).f2.f0) ((rd_T40 x17 x19).f2.f1) ((rd_T40 x17 x19).f2.f2) ((rd_T40 x17 x19).f2.f3)) else ((rung_blank.f ((rd_T40 x17 x19).f2.f0) ((rd_T40 x17 x19).f2.f1) ((rd_T40 x17 x19).f2.f2) ((rd_T40 x17 x19).f2.f3)).bind fun t107 => (rung_code.j1 k x1 x2 x7 bt103.1 bt103.2.1 bt103.2.2.1 x17 x18 x19 (!t107) ((rd_T40 x17 x19).f0) ((rd_T40 x17 x19).f1) ((rd_T40 x17 x19).f2.f0) ((rd_T40 x17 x19).f2.f1) ((rd_T40 x17 x19).f2.f2) ((rd_T40 x17 x19).f2.f3)))) else (if ((rd_T40 x17 x19).f1).toList = ([] : List UInt8) then (if ((rd_T40 x17 x19).f0) = 2 then (rung_code.j1 k x1 x2 x7 bt103.1 bt103.2.1 bt103.2.2.1 x17 x18 x19 false ((rd_T40 x17 x19).f0) ((rd_T40 x17 x19).f1) ((rd_T40 x17 x19).f2.f0) ((rd_T40 x17 x19).f2.f1) ((rd_T40 x17 x19).f2.f2) ((rd_T40 x17 x19).f2.f3)) else ((rung_blank.f ((rd_T40 x17 x19).f2.f0) ((rd_T40 x17 x19).f2.f1) ((rd_T40 x17 x19).f2.f2) ((rd_T40 x17 x19).f2.f3)).bind fun t108 => (rung_code.j1 k x1 x2 x7 bt103.1 bt103.2.1 bt103.2.2.1 x17 x18 x19 (!t108) ((rd_T40 x17 x19).f0) ((rd_T40 x17 x19).f1) ((rd_T40 x17 x19).f2.f0) ((rd_T40 x17 x19).f2.f1) ((rd_T40 x17 x19).f2.f2) ((rd_T40 x17 x19).f2.f3)))) else (rung_code.j1 k x1 x2 x7 bt103.1 bt103.2.1 bt103.2.2.1 x17 x18 x19 (((rd_T40 x17 x19).f1).toList != ([] : List UInt8)) ((rd_T40 x17 x19).f0) ((rd_T40 x17 x19).f1) ((rd_T40 x17 x19).f2.f0) ((rd_T40 x17 x19).f2.f1) ((rd_T40 x17 x19).f2.f2) ((rd_T40 x17 x19).f2.f3)))) else (rung_code.j1 k x1 x2 x7 bt103.1 bt103.2.1 bt103.2.2.1 x17 x18 x19 (!bt103.2.2.2) ((rd_T40 x17 x19).f0) ((rd_T40 x17 x19).f1) ((rd_T40 x17 x19).f2.f0) ((rd_T40 x17 x19).f2.f1) ((rd_T40 x17 x19).f2.f2) ((rd_T40 x17 x19).f2.f3)))) else (none)) else (none)) else (if x7 = 1 then (some 0) else (some 1))
def rung_code.j1 : Nat → List ByteArray → List ByteArray → Int → Bool → Int → Int → List (S40) → Int → Int → Bool → Int → ByteArray → Int → Int → ByteArray → List (S34) → Option (Int)
  | 0, _, _, _, _, _, _, _, _, _, _, _, _, _, _, _, _ => none
  | k + 1, x1, x2, x7, x10, x11, x12, x17, x18, x19, x31, x103000, x103001, x103002, x103003, x103004, x103005 => if x31 = true then (some 1) else (if x10 = true then ((slices_Contains_string_string.f k x1 x103001).bind fun t109 => (rung_code.j2 k x1 x2 x7 x11 x12 x17 x18 x19 (!t109) x103000 x103001 x103002 x103003 x103004 x103005)) else (rung_code.j2 k x1 x2 x7 x11 x12 x17 x18 x19 false x103000 x103001 x103002 x103003 x103004 x103005))
def rung_code.j2 : Nat → List ByteArray → List ByteArray → Int → Int → Int → List (S40) → Int → Int → Bool → Int → ByteArray → Int → Int → ByteArray → List (S34) → Option (Int)
  | 0, _, _, _, _, _, _, _, _, _, _, _, _, _, _, _ => none
  | k + 1, x1, x2, x7, x11, x12, x17, x18, x19, x50, x103000, x103001, x103002, x103003, x103004, x103005 => if x50 = true then (rung_code.j3 k x1 x2 x7 x11 x12 x17 x18 x19 x50 x103000 x103001 x103002 x103003 x103004 x103005) else (if x103000 = 2 then ((rung_strange.f k x103002 x103003 x103004 x103005 x2).bind fun t110 => (rung_code.j3 k x1 x2 x7 x11 x12 x17 x18 x19 t110 x103000 x103001 x103002 x103003 x103004 x103005)) else (rung_code.j3 k x1 x2 x7 x11 x12 x17 x18 x19 false x103000 x103001 x103002 x103003 x103004 x103005))
def rung_code.j3 : Nat → List ByteArray → List ByteArray → Int → Int → Int → List (S40) → Int → Int → Bool → Int → ByteArray → Int → Int → ByteArray → List (S34) → Option (Int)
  | 0, _, _, _, _, _, _, _, _, _, _, _, _, _, _, _ => none
  | k + 1, x1, x2, x7, x11, x12, x17, x18, x19, x50, x103000, x103001, x103002, x103003, x103004, x103005 => if x50 = true then (some 21) else (if x103000 = 2 then ((expr_May.f k x103002 x103003 x103004 x103005).bind fun t111 => (rung_code.j4 k x1 x2 x7 x11 x12 x17 x18 x19 (!t111))) else (rung_code.j4 k x1 x2 x7 x11 x12 x17 x18 x19 false))
def rung_code.j4 : Nat → List ByteArray → List ByteArray → Int → Int → Int → List (S40) → Int → Int → Bool → Option (Int)
  | 0, _, _, _, _, _, _, _, _, _ => none
  | k + 1, x1, x2, x7, x11, x12, x17, x18, x19, x68 => if x68 = true then (some 1) else (if x7 < x11 then (some 1) else (if (wrap64 ((wrap64 (x7 - x11)) + x12)) > 8 then (some 1) else (rung_code.l0 k x1 x2 (wrap64 (x7 + (wrap64 (x12 - x11)))) x17 x18 (wrap64 (x19 + 1)))))
end
def rung_code.f (k : Nat) (l0 : List (S40)) (l1 : List ByteArray) (l2 : List ByteArray) : Option (Int) := if (l0.length : Int) > 12 then (some 2) else (rung_code.l0 k l1 l2 0 l0 (l0.length : Int) 0)
theorem rung_code.mono_l : ∀ k, (∀ y0 y1 y2 y3 y4 y5, LeO (rung_code.l0 k y0 y1 y2 y3 y4 y5) (rung_code.l0 (k + 1) y0 y1 y2 y3 y4 y5)) ∧ (∀ y0 y1 y2 y3 y4 y5 y6 y7 y8 y9 y10 y11 y12 y13 y14 y15, LeO (rung_code.j1 k y0 y1 y2 y3 y4 y5 y6 y7 y8 y9 y10 y11 y12 y13 y14 y15) (rung_code.j1 (k + 1) y0 y1 y2 y3 y4 y5 y6 y7 y8 y9 y10 y11 y12 y13 y14 y15)) ∧ (∀ y0 y1 y2 y3 y4 y5 y6 y7 y8 y9 y10 y11 y12 y13 y14, LeO (rung_code.j2 k y0 y1 y2 y3 y4 y5 y6 y7 y8 y9 y10 y11 y12 y13 y14) (rung_code.j2 (k + 1) y0 y1 y2 y3 y4 y5 y6 y7 y8 y9 y10 y11 y12 y13 y14)) ∧ (∀ y0 y1 y2 y3 y4 y5 y6 y7 y8 y9 y10 y11 y12 y13 y14, LeO (rung_code.j3 k y0 y1 y2 y3 y4 y5 y6 y7 y8 y9 y10 y11 y12 y13 y14) (rung_code.j3 (k + 1) y0 y1 y2 y3 y4 y5 y6 y7 y8 y9 y10 y11 y12 y13 y14)) ∧ (∀ y0 y1 y2 y3 y4 y5 y6 y7 y8, LeO (rung_code.j4 k y0 y1 y2 y3 y4 y5 y6 y7 y8) (rung_code.j4 (k + 1) y0 y1 y2 y3 y4 y5 y6 y7 y8))
  | 0 => ⟨fun _ _ _ _ _ _ r h => by simp [rung_code.l0] at h, fun _ _ _ _ _ _ _ _ _ _ _ _ _ _ _ _ r h => by simp [rung_code.j1] at h, fun _ _ _ _ _ _ _ _ _ _ _ _ _ _ _ r h => by simp [rung_code.j2] at h, fun _ _ _ _ _ _ _ _ _ _ _ _ _ _ _ r h => by simp [rung_code.j3] at h, fun _ _ _ _ _ _ _ _ _ r h => by simp [rung_code.j4] at h⟩
  | k + 1 => by
    obtain ⟨ih0, ih1, ih2, ih3, ih4⟩ := rung_code.mono_l k
    refine ⟨?_, ?_, ?_, ?_, ?_⟩
    · intro y0 y1 y2 y3 y4 y5
      unfold rung_code.l0
      repeat' first
      | (with_reducible exact ih0 _ _ _ _ _ _)
      | (with_reducible exact ih1 _ _ _ _ _ _ _ _ _ _ _ _ _ _ _ _)
      | (with_reducible exact ih2 _ _ _ _ _ _ _ _ _ _ _ _ _ _ _)
      | (with_reducible exact ih3 _ _ _ _ _ _ _ _ _ _ _ _ _ _ _)
      | (with_reducible exact ih4 _ _ _ _ _ _ _ _ _)
      | (with_reducible exact expr_May.mono _ _ _ _ _)
      | (with_reducible exact rung_named.mono _ _)
      | (with_reducible exact rung_strange.mono _ _ _ _ _ _)
      | (with_reducible exact slices_Contains_string_string.mono _ _ _)
      | (with_reducible exact LeO.refl _)
      | (with_reducible exact LeO.none _)
      | (with_reducible refine LeO.ite ?_ ?_)
      | (with_reducible refine LeO.bind ?_ (fun _ => ?_))
      | exact ih0 _ _ _ _ _ _
      | exact ih1 _ _ _ _ _ _ _ _ _ _ _ _ _ _ _ _
      | exact ih2 _ _ _ _ _ _ _ _ _ _ _ _ _ _ _
      | exact ih3 _ _ _ _ _ _ _ _ _ _ _ _ _ _ _
      | exact ih4 _ _ _ _ _ _ _ _ _
      | exact expr_May.mono _ _ _ _ _
      | exact rung_named.mono _ _
      | exact rung_strange.mono _ _ _ _ _ _
      | exact slices_Contains_string_string.mono _ _ _
      | exact LeO.none _
      | refine LeO.ite ?_ ?_
      | refine LeO.bind ?_ (fun _ => ?_)
    · intro y0 y1 y2 y3 y4 y5 y6 y7 y8 y9 y10 y11 y12 y13 y14 y15
      unfold rung_code.j1
      repeat' first
      | (with_reducible exact ih0 _ _ _ _ _ _)
      | (with_reducible exact ih1 _ _ _ _ _ _ _ _ _ _ _ _ _ _ _ _)
      | (with_reducible exact ih2 _ _ _ _ _ _ _ _ _ _ _ _ _ _ _)
      | (with_reducible exact ih3 _ _ _ _ _ _ _ _ _ _ _ _ _ _ _)
      | (with_reducible exact ih4 _ _ _ _ _ _ _ _ _)
      | (with_reducible exact expr_May.mono _ _ _ _ _)
      | (with_reducible exact rung_named.mono _ _)
      | (with_reducible exact rung_strange.mono _ _ _ _ _ _)
      | (with_reducible exact slices_Contains_string_string.mono _ _ _)
      | (with_reducible exact LeO.refl _)
      | (with_reducible exact LeO.none _)
      | (with_reducible refine LeO.ite ?_ ?_)
      | (with_reducible refine LeO.bind ?_ (fun _ => ?_))
      | exact ih0 _ _ _ _ _ _
      | exact ih1 _ _ _ _ _ _ _ _ _ _ _ _ _ _ _ _
      | exact ih2 _ _ _ _ _ _ _ _ _ _ _ _ _ _ _
      | exact ih3 _ _ _ _ _ _ _ _ _ _ _ _ _ _ _
      | exact ih4 _ _ _ _ _ _ _ _ _
      | exact expr_May.mono _ _ _ _ _
      | exact rung_named.mono _ _
      | exact rung_strange.mono _ _ _ _ _ _
      | exact slices_Contains_string_string.mono _ _ _
      | exact LeO.none _
      | refine LeO.ite ?_ ?_
      | refine LeO.bind ?_ (fun _ => ?_)
    · intro y0 y1 y2 y3 y4 y5 y6 y7 y8 y9 y10 y11 y12 y13 y14
      unfold rung_code.j2
      repeat' first
      | (with_reducible exact ih0 _ _ _ _ _ _)
      | (with_reducible exact ih1 _ _ _ _ _ _ _ _ _ _ _ _ _ _ _ _)
      | (with_reducible exact ih2 _ _ _ _ _ _ _ _ _ _ _ _ _ _ _)
      | (with_reducible exact ih3 _ _ _ _ _ _ _ _ _ _ _ _ _ _ _)
      | (with_reducible exact ih4 _ _ _ _ _ _ _ _ _)
      | (with_reducible exact expr_May.mono _ _ _ _ _)
      | (with_reducible exact rung_named.mono _ _)
      | (with_reducible exact rung_strange.mono _ _ _ _ _ _)
      | (with_reducible exact slices_Contains_string_string.mono _ _ _)
      | (with_reducible exact LeO.refl _)
      | (with_reducible exact LeO.none _)
      | (with_reducible refine LeO.ite ?_ ?_)
      | (with_reducible refine LeO.bind ?_ (fun _ => ?_))
      | exact ih0 _ _ _ _ _ _
      | exact ih1 _ _ _ _ _ _ _ _ _ _ _ _ _ _ _ _
      | exact ih2 _ _ _ _ _ _ _ _ _ _ _ _ _ _ _
      | exact ih3 _ _ _ _ _ _ _ _ _ _ _ _ _ _ _
      | exact ih4 _ _ _ _ _ _ _ _ _
      | exact expr_May.mono _ _ _ _ _
      | exact rung_named.mono _ _
      | exact rung_strange.mono _ _ _ _ _ _
      | exact slices_Contains_string_string.mono _ _ _
      | exact LeO.none _
      | refine LeO.ite ?_ ?_
      | refine LeO.bind ?_ (fun _ => ?_)
    · intro y0 y1 y2 y3 y4 y5 y6 y7 y8 y9 y10 y11 y12 y13 y14
      unfold rung_code.j3
      repeat' first
      | (with_reducible exact ih0 _ _ _ _ _ _)
      | (with_reducible exact ih1 _ _ _ _ _ _ _ _ _ _ _ _ _ _ _ _)
      | (with_reducible exact ih2 _ _ _ _ _ _ _ _ _ _ _ _ _ _ _)
      | (with_reducible exact ih3 _ _ _ _ _ _ _ _ _ _ _ _ _ _ _)
      | (with_reducible exact ih4 _ _ _ _ _ _ _ _ _)
      | (with_reducible exact expr_May.mono _ _ _ _ _)
      | (with_reducible exact rung_named.mono _ _)
      | (with_reducible exact rung_strange.mono _ _ _ _ _ _)
      | (with_reducible exact slices_Contains_string_string.mono _ _ _)
      | (with_reducible exact LeO.refl _)
      | (with_reducible exact LeO.none _)
      | (with_reducible refine LeO.ite ?_ ?_)
      | (with_reducible refine LeO.bind ?_ (fun _ => ?_))
      | exact ih0 _ _ _ _ _ _
      | exact ih1 _ _ _ _ _ _ _ _ _ _ _ _ _ _ _ _
      | exact ih2 _ _ _ _ _ _ _ _ _ _ _ _ _ _ _
      | exact ih3 _ _ _ _ _ _ _ _ _ _ _ _ _ _ _
      | exact ih4 _ _ _ _ _ _ _ _ _
      | exact expr_May.mono _ _ _ _ _
      | exact rung_named.mono _ _
      | exact rung_strange.mono _ _ _ _ _ _
      | exact slices_Contains_string_string.mono _ _ _
      | exact LeO.none _
      | refine LeO.ite ?_ ?_
      | refine LeO.bind ?_ (fun _ => ?_)
    intro y0 y1 y2 y3 y4 y5 y6 y7 y8
    unfold rung_code.j4
    repeat' first
    | (with_reducible exact ih0 _ _ _ _ _ _)
    | (with_reducible exact ih1 _ _ _ _ _ _ _ _ _ _ _ _ _ _ _ _)
    | (with_reducible exact ih2 _ _ _ _ _ _ _ _ _ _ _ _ _ _ _)
    | (with_reducible exact ih3 _ _ _ _ _ _ _ _ _ _ _ _ _ _ _)
    | (with_reducible exact ih4 _ _ _ _ _ _ _ _ _)
    | (with_reducible exact expr_May.mono _ _ _ _ _)
    | (with_reducible exact rung_named.mono _ _)
    | (with_reducible exact rung_strange.mono _ _ _ _ _ _)
    | (with_reducible exact slices_Contains_string_string.mono _ _ _)
    | (with_reducible exact LeO.refl _)
    | (with_reducible exact LeO.none _)
    | (with_reducible refine LeO.ite ?_ ?_)
    | (with_reducible refine LeO.bind ?_ (fun _ => ?_))
    | exact ih0 _ _ _ _ _ _
    | exact ih1 _ _ _ _ _ _ _ _ _ _ _ _ _ _ _ _
    | exact ih2 _ _ _ _ _ _ _ _ _ _ _ _ _ _ _
    | exact ih3 _ _ _ _ _ _ _ _ _ _ _ _ _ _ _
    | exact ih4 _ _ _ _ _ _ _ _ _
    | exact expr_May.mono _ _ _ _ _
    | exact rung_named.mono _ _
    | exact rung_strange.mono _ _ _ _ _ _
    | exact slices_Contains_string_string.mono _ _ _
    | exact LeO.none _
    | refine LeO.ite ?_ ?_
    | refine LeO.bind ?_ (fun _ => ?_)
theorem rung_code.mono : ∀ a0 a1 a2 k, LeO (rung_code.f k a0 a1 a2) (rung_code.f (k + 1) a0 a1 a2) := by
  intro a0 a1 a2 k
  obtain ⟨ih0, ih1, ih2, ih3, ih4⟩ := rung_code.mono_l k
  unfold rung_code.f
  repeat' first
      | (with_reducible exact ih0 _ _ _ _ _ _)
      | (with_reducible exact ih1 _ _ _ _ _ _ _ _ _ _ _ _ _ _ _ _)
      | (with_reducible exact ih2 _ _ _ _ _ _ _ _ _ _ _ _ _ _ _)
      | (with_reducible exact ih3 _ _ _ _ _ _ _ _ _ _ _ _ _ _ _)
      | (with_reducible exact ih4 _ _ _ _ _ _ _ _ _)
      | (with_reducible exact expr_May.mono _ _ _ _ _)
      | (with_reducible exact rung_named.mono _ _)
      | (with_reducible exact rung_strange.mono _ _ _ _ _ _)
      | (with_reducible exact slices_Contains_string_string.mono _ _ _)
      | (with_reducible exact LeO.refl _)
      | (with_reducible exact LeO.none _)
      | (with_reducible refine LeO.ite ?_ ?_)
      | (with_reducible refine LeO.bind ?_ (fun _ => ?_))
      | exact ih0 _ _ _ _ _ _
      | exact ih1 _ _ _ _ _ _ _ _ _ _ _ _ _ _ _ _
      | exact ih2 _ _ _ _ _ _ _ _ _ _ _ _ _ _ _
      | exact ih3 _ _ _ _ _ _ _ _ _ _ _ _ _ _ _
      | exact ih4 _ _ _ _ _ _ _ _ _
      | exact expr_May.mono _ _ _ _ _
      | exact rung_named.mono _ _
      | exact rung_strange.mono _ _ _ _ _ _
      | exact slices_Contains_string_string.mono _ _ _
      | exact LeO.none _
      | refine LeO.ite ?_ ?_
      | refine LeO.bind ?_ (fun _ => ?_)
set_option maxHeartbeats 8000000 in
set_option maxRecDepth 100000 in
theorem rung_code.calls (k : Nat) (A0 : Option Addr) (c0 : Nat) (l0 : List (S40)) (A1 : Option Addr) (c1 : Nat) (l1 : List ByteArray) (A2 : Option Addr) (c2 : Nat) (l2 : List ByteArray) (r : Int) (w : World) (hr0 : Kd.C k40 w A0 l0.length l0) (hc0 : l0.length ≤ c0) (hr1 : Kd.C Kd.string w A1 l1.length l1) (hc1 : l1.length ≤ c1) (hr2 : Kd.C Kd.string w A2 l2.length l2) (hc2 : l2.length ≤ c2) (h : rung_code.f k l0 l1 l2 = some r) (hN : A2 ≠ none) (hT : UT w) :
  Calls Tryd.prog 92 #[.slice A0 l0.length c0, .slice A1 l1.length c1, .slice A2 l2.length c2] w fun e w' => e = .returned (.int .i64 r) ∧ Below w.heap.size w w' := by
 have HT0 := Aside0.mk hT
 clear hT
 have HNL := Aside0.mk hN
 clear hN
 have hu40 := Tryd.underlying40
 have hu34 := Tryd.underlying34
 have HR0 := Aside0.mk hr0
 have HC0 := Aside0.mk hc0
 clear hr0 hc0
 have HR1 := Aside0.mk hr1
 have HC1 := Aside0.mk hc1
 clear hr1 hc1
 have HR2 := Aside0.mk hr2
 have HC2 := Aside0.mk hc2
 clear hr2 hc2
 have HB := Aside0.mk (Below.refl w.heap.size w)
 have H : (if (l0.length : Int) > 12 then (some 2) else (rung_code.l0 k l1 l2 0 l0 (l0.length : Int) 0)) = some r := h
 clear h
 by_cases c4 : (l0.length : Int) > 12
 ·rw [if_pos c4] at H
  have c4b0 : decide (12 < (l0.length : Int)) = true := decide_eq_true c4
  have c4b1 : decide (12 < l0.length) = true := decide_eq_true (by omega)
  clear c4
  obtain rfl := Option.some.inj H
  go_enter Tryd.func92, Tryd.ntmps92
  go_wp2
  go_ret
  exact qr
 rw [if_neg c4] at H
 have c4b0 : decide (12 < (l0.length : Int)) = false := decide_eq_false c4
 have c4b1 : decide (12 < l0.length) = false := decide_eq_false (by omega)
 clear c4
 have H' := Aside0.mk H
 clear H
 go_enter Tryd.func92, Tryd.ntmps92
 go_wp2
 go_loopg [7, 19] k (fun kq v7 v19 w' => ∃ (x7_1 : Int) (x19_1 : Int), v7 = .int .i64 x7_1 ∧ v19 = .int .i64 x19_1 ∧ Aside0 (rung_code.l0 kq l1 l2 x7_1 l0 (l0.length : Int) x19_1 = some r) ∧ Aside0 (kq ≤ k) ∧ Aside0 (Below w.heap.size w w'))
 case atStart => exact ⟨(0), (0), qv, qv, H', ⟨Nat.le_refl _⟩, qB⟩
 case round =>
  clear H'
  obtain ⟨x7_1, x19_1, rfl, rfl, HA, HK1, HB⟩ := hrel
  cases gk with
  | zero => exact absurd HA.out (by simp [rung_code.l0])
  | succ k1 =>
   have H := HA.out
   clear HA
   simp only [rung_code.l0] at H
   by_cases c5 : x19_1 < (l0.length : Int)
   ·rw [if_pos c5] at H
    have c5b0 : decide (x19_1 < (l0.length : Int)) = true := decide_eq_true c5
    clear c5
    by_cases c6 : 0 ≤ x19_1
    ·rw [if_pos c6] at H
     have c6b0 : decide (0 ≤ x19_1) = true := decide_eq_true c6
     clear c6
     by_cases c7 : x19_1 < (l0.length : Int)
     ·rw [if_pos c7] at H
      have c7b0 : decide (x19_1 < (l0.length : Int)) = true := decide_eq_true c7
      clear c7
      replace H := qi H
      obtain ⟨⟨t103, t104, t105, t106⟩, A8, H⟩ := H
      replace H : (if t106 = true then (if t103 = true then (if ((rd_T40 l0 x19_1).f0) = 2 then (rung_code.j1 k1 l1 l2 x7_1 t103 t104 t105 l0 (l0.length : Int) x19_1 false ((rd_T40 l0 x19_1).f0) ((rd_T40 l0 x19_1).f1) ((rd_T40 l0 x19_1).f2.f0) ((rd_T40 l0 x19_1).f2.f1) ((rd_T40 l0 x19_1).f2.f2) ((rd_T40 l0 x19_1).f2.f3)) else ((rung_blank.f ((rd_T40 l0 x19_1).f2.f0) ((rd_T40 l0 x19_1).f2.f1) ((rd_T40 l0 x19_1).f2.f2) ((rd_T40 l0 x19_1).f2.f3)).bind fun t107 => (rung_code.j1 k1 l1 l2 x7_1 t103 t104 t105 l0 (l0.length : Int) x19_1 (!t107) ((rd_T40 l0 x19_1).f0) ((rd_T40 l0 x19_1).f1) ((rd_T40 l0 x19_1).f2.f0) ((rd_T40 l0 x19_1).f2.f1) ((rd_T40 l0 x19_1).f2.f2) ((rd_T40 l0 x19_1).f2.f3)))) else (if ((rd_T40 l0 x19_1).f1).toList = ([] : List UInt8) then (if ((rd_T40 l0 x19_1).f0) = 2 then (rung_code.j1 k1 l1 l2 x7_1 t103 t104 t105 l0 (l0.length : Int) x19_1 false ((rd_T40 l0 x19_1).f0) ((rd_T40 l0 x19_1).f1) ((rd_T40 l0 x19_1).f2.f0) ((rd_T40 l0 x19_1).f2.f1) ((rd_T40 l0 x19_1).f2.f2) ((rd_T40 l0 x19_1).f2.f3)) else ((rung_blank.f ((rd_T40 l0 x19_1).f2.f0) ((rd_T40 l0 x19_1).f2.f1) ((rd_T40 l0 x19_1).f2.f2) ((rd_T40 l0 x19_1).f2.f3)).bind fun t108 => (rung_code.j1 k1 l1 l2 x7_1 t103 t104 t105 l0 (l0.length : Int) x19_1 (!t108) ((rd_T40 l0 x19_1).f0) ((rd_T40 l0 x19_1).f1) ((rd_T40 l0 x19_1).f2.f0) ((rd_T40 l0 x19_1).f2.f1) ((rd_T40 l0 x19_1).f2.f2) ((rd_T40 l0 x19_1).f2.f3)))) else (rung_code.j1 k1 l1 l2 x7_1 t103 t104 t105 l0 (l0.length : Int) x19_1 (((rd_T40 l0 x19_1).f1).toList != ([] : List UInt8)) ((rd_T40 l0 x19_1).f0) ((rd_T40 l0 x19_1).f1) ((rd_T40 l0 x19_1).f2.f0) ((rd_T40 l0 x19_1).f2.f1) ((rd_T40 l0 x19_1).f2.f2) ((rd_T40 l0 x19_1).f2.f3)))) else (rung_code.j1 k1 l1 l2 x7_1 t103 t104 t105 l0 (l0.length : Int) x19_1 (!t106) ((rd_T40 l0 x19_1).f0) ((rd_T40 l0 x19_1).f1) ((rd_T40 l0 x19_1).f2.f0) ((rd_T40 l0 x19_1).f2.f1) ((rd_T40 l0 x19_1).f2.f2) ((rd_T40 l0 x19_1).f2.f3))) = some r := H
      have HC9 := Aside0.mk H
      clear H
      have p101 : 0 ≤ (x19_1 : Int) := qa
      have q101 : x19_1 < (l0.length : Int) := qa
      obtain ⟨ad101, A101_5, c101_5, e101, hx101_0, hx101_1, hx101_2, hx101_3, hx101_4, hx101_5, hl101_5, hi101_5⟩ := at_T40 HR0.out x19_1 p101 q101
      cases e101
      replace hx101_0 := qc HB.out hx101_0
      replace hx101_1 := qc HB.out hx101_1
      replace hx101_2 := qc HB.out hx101_2
      replace hx101_3 := qc HB.out hx101_3
      replace hx101_4 := qc HB.out hx101_4
      replace hx101_5 := qc HB.out hx101_5
      have HR101_5 := Aside0.mk hi101_5
      have HC101_5 := Aside0.mk hl101_5
      clear hi101_5 hl101_5
      replace p101 := eq_true p101
      replace q101 := eq_true q101
      go_upto_if 31 with (first | ((with_reducible refine gate_dst (N := 9) rfl ?_); refine box_event ?hg (N := 9) ?hd (cs := #[.int .i64 0, .string (⟨#[]⟩ : ByteArray), .int .i64 0, .int .i64 0, .string (⟨#[]⟩ : ByteArray), .slice none 0 0]) (t := 40) ?hr ?_; (case hd => rfl); (case hg => rfl); (case hr => first | (go_simp; done) | (go_simp; rfl)); intro gb102 hg w10 hbox hb; have n0_ := qs hb; have n1_ := Aside0.mk (hbox); have n2_ := Aside0.mk ((by rw [hg]; exact (below_size qb) : w.heap.size ≤ gb102)); have n3_ := Aside0.mk ((by rw [hg]; exact (below_size qb) : w.heap.size ≤ gb102)); clear HB; have HB := n0_; have BK102 := n1_; have GW102 := n2_; have GE102 := n3_; clear n0_ n1_ n2_ n3_; clear hb hbox hg; obtain ⟨_, _, _, _, _, _, _, _, _, _, _, _⟩ := q6 BK102.out) | ((with_reducible refine gate_callee (f := 121) rfl ?_); refine goesL_ (some 26) rfl rfl Tryd.func121 (by kernel_rfl) rfl #[.int .i64 ((rd_T40 l0 x19_1).f0)] rfl qm ?_; (with_reducible refine (rung_named.calls k1 ((rd_T40 l0 x19_1).f0) t103 t104 t105 t106 _ A8.out).mono ?_); rintro e w' ⟨rfl, ⟨nd, rfl⟩⟩; refine ⟨_, rfl, ?_⟩))
      (try simp only [Act.put, List.setIfInBounds_toArray, List.set_cons_zero, List.set_cons_succ])
      go_cut [31] (fun v31 wc => ∃ (kq : Nat) (x31_8 : Bool), v31 = .bool x31_8 ∧ Aside0 (rung_code.j1 kq l1 l2 x7_1 t103 t104 t105 l0 (l0.length : Int) x19_1 x31_8 ((rd_T40 l0 x19_1).f0) ((rd_T40 l0 x19_1).f1) ((rd_T40 l0 x19_1).f2.f0) ((rd_T40 l0 x19_1).f2.f1) ((rd_T40 l0 x19_1).f2.f2) ((rd_T40 l0 x19_1).f2.f3) = some r) ∧ Aside0 (kq ≤ k1) ∧ Aside0 (wc.heap[gb102]? = some (.cells #[.int .i64 ((rd_T40 l0 x19_1).f0), .string ((rd_T40 l0 x19_1).f1), .int .i64 ((rd_T40 l0 x19_1).f2.f0), .int .i64 ((rd_T40 l0 x19_1).f2.f1), .string ((rd_T40 l0 x19_1).f2.f2), (.slice A101_5 ((rd_T40 l0 x19_1).f2.f3).length c101_5)] 40 (0, 0))) ∧ Aside0 (Below w.heap.size w wc))
      case first =>
       have H := HC9.out
       clear HC9
       by_cases c12 : t106 = true
       ·subst c12
        rw [if_pos rfl] at H
        by_cases c13 : t103 = true
        ·subst c13
         rw [if_pos rfl] at H
         by_cases c14 : ((rd_T40 l0 x19_1).f0) = 2
         ·rw [if_pos c14] at H
          obtain ⟨c14b0, c14b1⟩ := qe c14
          clear c14
          (first | rw [c14b0] | (simp only [i64_w, i32_w]; rw [c14b0]) | skip)
          have H' := Aside0.mk H
          clear H
          obtain ⟨_, _, _, _, _, _, _, _, _, _, _, _⟩ := q6 BK102.out
          go_wp2
          go_meet
          case rel => exact ⟨_, (false), qv, H', ⟨by have := HK1.out; first | omega | exact Nat.le_refl _⟩, qY102, qB⟩
         rw [if_neg c14] at H
         obtain ⟨c14b0, c14b1⟩ := qd c14
         (first | rw [c14b0] | (simp only [i64_w, i32_w]; rw [c14b0]) | skip)
         replace H := qi H
         obtain ⟨t107, A16, H⟩ := H
         have H' := Aside0.mk H
         clear H
         obtain ⟨_, _, _, _, _, _, _, _, _, _, _, _⟩ := q6 BK102.out
         go_wp2_with (first | (go_at_call 122; (with_reducible refine (rung_blank.calls ((rd_T40 l0 x19_1).f2.f0) ((rd_T40 l0 x19_1).f2.f1) ((rd_T40 l0 x19_1).f2.f2) _ _ ((rd_T40 l0 x19_1).f2.f3) t107 _ ?side1 ?side2 A16.out).mono ?_); (case side1 => exact Kd.C_below HR101_5.out qb); (case side2 => exact HC101_5.out); rintro e w18 ⟨rfl, hb⟩; have n0_ := Aside0.mk (blk_below (g := gb102) (o := .cells #[.int .i64 ((rd_T40 l0 x19_1).f0), .string ((rd_T40 l0 x19_1).f1), .int .i64 ((rd_T40 l0 x19_1).f2.f0), .int .i64 ((rd_T40 l0 x19_1).f2.f1), .string ((rd_T40 l0 x19_1).f2.f2), .slice A101_5 ((rd_T40 l0 x19_1).f2.f3).length c101_5] 40 (0, 0)) qy102 hb); have n1_ := qs hb; clear BK102; clear HB; have BK102 := n0_; have HB := n1_; clear n0_ n1_; (try clear hb)))
         go_meet
         case rel => exact ⟨_, (!t107), qv, H', ⟨by have := HK1.out; first | omega | exact Nat.le_refl _⟩, qk102, qB⟩
        replace c13 := Bool.eq_false_iff.mpr c13
        subst c13
        rw [if_neg qf] at H
        by_cases c19 : ((rd_T40 l0 x19_1).f1).toList = ([] : List UInt8)
        ·rw [if_pos c19] at H
         obtain ⟨c19b0, c19b1⟩ := qe c19
         clear c19
         by_cases c20 : ((rd_T40 l0 x19_1).f0) = 2
         ·rw [if_pos c20] at H
          obtain ⟨c20b0, c20b1⟩ := qe c20
          clear c20
          have H' := Aside0.mk H
          clear H
          obtain ⟨_, _, _, _, _, _, _, _, _, _, _, _⟩ := q6 BK102.out
          go_wp2
          go_meet
          case rel => exact ⟨_, (false), qv, H', ⟨by have := HK1.out; first | omega | exact Nat.le_refl _⟩, qY102, qB⟩
         rw [if_neg c20] at H
         obtain ⟨c20b0, c20b1⟩ := qd c20
         replace H := qi H
         obtain ⟨t108, A22, H⟩ := H
         have H' := Aside0.mk H
         clear H
         obtain ⟨_, _, _, _, _, _, _, _, _, _, _, _⟩ := q6 BK102.out
         go_wp2_with (first | (go_at_call 122; (with_reducible refine (rung_blank.calls ((rd_T40 l0 x19_1).f2.f0) ((rd_T40 l0 x19_1).f2.f1) ((rd_T40 l0 x19_1).f2.f2) _ _ ((rd_T40 l0 x19_1).f2.f3) t108 _ ?side1 ?side2 A22.out).mono ?_); (case side1 => exact Kd.C_below HR101_5.out qb); (case side2 => exact HC101_5.out); rintro e w24 ⟨rfl, hb⟩; have n0_ := Aside0.mk (blk_below (g := gb102) (o := .cells #[.int .i64 ((rd_T40 l0 x19_1).f0), .string ((rd_T40 l0 x19_1).f1), .int .i64 ((rd_T40 l0 x19_1).f2.f0), .int .i64 ((rd_T40 l0 x19_1).f2.f1), .string ((rd_T40 l0 x19_1).f2.f2), .slice A101_5 ((rd_T40 l0 x19_1).f2.f3).length c101_5] 40 (0, 0)) qy102 hb); have n1_ := qs hb; clear BK102; clear HB; have BK102 := n0_; have HB := n1_; clear n0_ n1_; (try clear hb)))
         go_meet
         case rel => exact ⟨_, (!t108), qv, H', ⟨by have := HK1.out; first | omega | exact Nat.le_refl _⟩, qk102, qB⟩
        rw [if_neg c19] at H
        obtain ⟨c19b0, c19b1⟩ := qd c19
        have H' := Aside0.mk H
        clear H
        obtain ⟨_, _, _, _, _, _, _, _, _, _, _, _⟩ := q6 BK102.out
        go_wp2
        go_meet
        case rel => exact ⟨_, ((((rd_T40 l0 x19_1).f1).toList != ([] : List UInt8))), qv, H', ⟨by have := HK1.out; first | omega | exact Nat.le_refl _⟩, qY102, qB⟩
       replace c12 := Bool.eq_false_iff.mpr c12
       subst c12
       rw [if_neg qf] at H
       have H' := Aside0.mk H
       clear H
       go_wp2
       go_meet
       case rel => exact ⟨_, (!false), qv, H', ⟨by have := HK1.out; first | omega | exact Nat.le_refl _⟩, qY102, qB⟩
      clear HC9
      obtain ⟨kq, x31_8, rfl, HA, HJ8, BK102, HB⟩ := hcut
      cases kq with
      | zero => exact absurd HA.out (by simp [rung_code.j1])
      | succ kj8 =>
       have H := HA.out
       clear HA
       simp only [rung_code.j1] at H
       by_cases c26 : x31_8 = true
       ·subst c26
        rw [if_pos rfl] at H
        obtain rfl := Option.some.inj H
        go_wp2
        go_ret
        exact qr
       replace c26 := Bool.eq_false_iff.mpr c26
       subst c26
       rw [if_neg qf] at H
       have HC27 := Aside0.mk H
       clear H
       go_upto_region 12 with (fail)
       go_cut [50] (fun v50 wc => ∃ (kq : Nat) (x50_26 : Bool), v50 = .bool x50_26 ∧ Aside0 (rung_code.j2 kq l1 l2 x7_1 t104 t105 l0 (l0.length : Int) x19_1 x50_26 ((rd_T40 l0 x19_1).f0) ((rd_T40 l0 x19_1).f1) ((rd_T40 l0 x19_1).f2.f0) ((rd_T40 l0 x19_1).f2.f1) ((rd_T40 l0 x19_1).f2.f2) ((rd_T40 l0 x19_1).f2.f3) = some r) ∧ Aside0 (kq ≤ kj8) ∧ Aside0 (wc.heap[gb102]? = some (.cells #[.int .i64 ((rd_T40 l0 x19_1).f0), .string ((rd_T40 l0 x19_1).f1), .int .i64 ((rd_T40 l0 x19_1).f2.f0), .int .i64 ((rd_T40 l0 x19_1).f2.f1), .string ((rd_T40 l0 x19_1).f2.f2), (.slice A101_5 ((rd_T40 l0 x19_1).f2.f3).length c101_5)] 40 (0, 0))) ∧ Aside0 (Below w.heap.size w wc))
       case first =>
        have H := HC27.out
        clear HC27
        by_cases c28 : t103 = true
        ·subst c28
         rw [if_pos rfl] at H
         replace H := qi H
         obtain ⟨t109, A29, H⟩ := H
         have H' := Aside0.mk H
         clear H
         obtain ⟨_, _, _, _, _, _, _, _, _, _, _, _⟩ := q6 BK102.out
         go_wp2_with (first | (go_at_call 61; (with_reducible refine (slices_Contains_string_string.calls kj8 _ _ l1 ((rd_T40 l0 x19_1).f1) t109 _ ?side1 ?side2 A29.out).mono ?_); (case side1 => exact qC HR1.out); (case side2 => exact HC1.out); rintro e w' ⟨rfl, ⟨nd, rfl⟩⟩))
         go_meet
         case rel => exact ⟨_, (!t109), qv, H', ⟨by have := HK1.out; have := HJ8.out; first | omega | exact Nat.le_refl _⟩, qk102, qB⟩
        replace c28 := Bool.eq_false_iff.mpr c28
        subst c28
        rw [if_neg qf] at H
        have H' := Aside0.mk H
        clear H
        go_wp2
        go_meet
        case rel => exact ⟨_, (false), qv, H', ⟨by have := HK1.out; have := HJ8.out; first | omega | exact Nat.le_refl _⟩, qk102, qB⟩
       clear HC27
       obtain ⟨kq, x50_26, rfl, HA, HJ26, BK102, HB⟩ := hcut
       cases kq with
       | zero => exact absurd HA.out (by simp [rung_code.j2])
       | succ kj26 =>
        have H := HA.out
        clear HA
        simp only [rung_code.j2] at H
        have HC31 := Aside0.mk H
        clear H
        go_upto_if 50 with (fail)
        go_cut [50] (fun v50 wc => ∃ (kq : Nat) (x50_30 : Bool), v50 = .bool x50_30 ∧ Aside0 (rung_code.j3 kq l1 l2 x7_1 t104 t105 l0 (l0.length : Int) x19_1 x50_30 ((rd_T40 l0 x19_1).f0) ((rd_T40 l0 x19_1).f1) ((rd_T40 l0 x19_1).f2.f0) ((rd_T40 l0 x19_1).f2.f1) ((rd_T40 l0 x19_1).f2.f2) ((rd_T40 l0 x19_1).f2.f3) = some r) ∧ Aside0 (kq ≤ kj26) ∧ Aside0 (wc.heap[gb102]? = some (.cells #[.int .i64 ((rd_T40 l0 x19_1).f0), .string ((rd_T40 l0 x19_1).f1), .int .i64 ((rd_T40 l0 x19_1).f2.f0), .int .i64 ((rd_T40 l0 x19_1).f2.f1), .string ((rd_T40 l0 x19_1).f2.f2), (.slice A101_5 ((rd_T40 l0 x19_1).f2.f3).length c101_5)] 40 (0, 0))) ∧ Aside0 (Below w.heap.size w wc))
        case first =>
         have H := HC31.out
         clear HC31
         by_cases c32 : x50_26 = true
         ·subst c32
          rw [if_pos rfl] at H
          have H' := Aside0.mk H
          clear H
          go_wp2
          go_meet
          case rel => exact ⟨_, (true), qv, H', ⟨by have := HK1.out; have := HJ8.out; have := HJ26.out; first | omega | exact Nat.le_refl _⟩, qk102, qB⟩
         replace c32 := Bool.eq_false_iff.mpr c32
         subst c32
         rw [if_neg qf] at H
         by_cases c33 : ((rd_T40 l0 x19_1).f0) = 2
         ·rw [if_pos c33] at H
          obtain ⟨c33b0, c33b1⟩ := qe c33
          clear c33
          (first | rw [c33b0] | (simp only [i64_w, i32_w]; rw [c33b0]) | skip)
          replace H := qi H
          obtain ⟨t110, A34, H⟩ := H
          have H' := Aside0.mk H
          clear H
          obtain ⟨_, _, _, _, _, _, _, _, _, _, _, _⟩ := q6 BK102.out
          go_wp2_with (first | (go_at_call 123; (with_reducible refine (rung_strange.calls kj26 ((rd_T40 l0 x19_1).f2.f0) ((rd_T40 l0 x19_1).f2.f1) ((rd_T40 l0 x19_1).f2.f2) _ _ ((rd_T40 l0 x19_1).f2.f3) _ _ l2 t110 _ ?side1 ?side2 ?side3 ?side4 A34.out HNL.out (by first | exact HT0.out | exact UT.below HT0.out qb)).mono ?_); (case side1 => exact qC HR101_5.out); (case side2 => exact HC101_5.out); (case side3 => exact qC HR2.out); (case side4 => exact HC2.out); rintro e w36 ⟨rfl, hb⟩; have n0_ := qn102 (g := gb102) hb; have n1_ := qs hb; clear BK102; clear HB; have BK102 := n0_; have HB := n1_; clear n0_ n1_; (try clear hb)))
          go_meet
          case rel => exact ⟨_, (t110), qv, H', ⟨by have := HK1.out; have := HJ8.out; have := HJ26.out; first | omega | exact Nat.le_refl _⟩, qk102, qB⟩
         rw [if_neg c33] at H
         obtain ⟨c33b0, c33b1⟩ := qd c33
         (first | rw [c33b0] | (simp only [i64_w, i32_w]; rw [c33b0]) | skip)
         have H' := Aside0.mk H
         clear H
         obtain ⟨_, _, _, _, _, _, _, _, _, _, _, _⟩ := q6 BK102.out
         go_wp2
         go_meet
         case rel => exact ⟨_, (false), qv, H', ⟨by have := HK1.out; have := HJ8.out; have := HJ26.out; first | omega | exact Nat.le_refl _⟩, qk102, qB⟩
        clear HC31
        obtain ⟨kq, x50_30, rfl, HA, HJ30, BK102, HB⟩ := hcut
        cases kq with
        | zero => exact absurd HA.out (by simp [rung_code.j3])
        | succ kj30 =>
         have H := HA.out
         clear HA
         simp only [rung_code.j3] at H
         by_cases c38 : x50_30 = true
         ·subst c38
          rw [if_pos rfl] at H
          obtain rfl := Option.some.inj H
          go_wp2
          go_ret
          exact qr
         replace c38 := Bool.eq_false_iff.mpr c38
         subst c38
         rw [if_neg qf] at H
         have HC39 := Aside0.mk H
         clear H
         go_upto_region 15 with (fail)
         go_cut [68] (fun v68 wc => ∃ (kq : Nat) (x68_38 : Bool), v68 = .bool x68_38 ∧ Aside0 (rung_code.j4 kq l1 l2 x7_1 t104 t105 l0 (l0.length : Int) x19_1 x68_38 = some r) ∧ Aside0 (kq ≤ kj30) ∧ Aside0 (wc.heap[gb102]? = some (.cells #[.int .i64 ((rd_T40 l0 x19_1).f0), .string ((rd_T40 l0 x19_1).f1), .int .i64 ((rd_T40 l0 x19_1).f2.f0), .int .i64 ((rd_T40 l0 x19_1).f2.f1), .string ((rd_T40 l0 x19_1).f2.f2), (.slice A101_5 ((rd_T40 l0 x19_1).f2.f3).length c101_5)] 40 (0, 0))) ∧ Aside0 (Below w.heap.size w wc))
         case first =>
          have H := HC39.out
          clear HC39
          by_cases c40 : ((rd_T40 l0 x19_1).f0) = 2
          ·rw [if_pos c40] at H
           obtain ⟨c40b0, c40b1⟩ := qe c40
           clear c40
           (first | rw [c40b0] | (simp only [i64_w, i32_w]; rw [c40b0]) | skip)
           replace H := qi H
           obtain ⟨t111, A41, H⟩ := H
           have H' := Aside0.mk H
           clear H
           obtain ⟨_, _, _, _, _, _, _, _, _, _, _, _⟩ := q6 BK102.out
           go_wp2_with (first | (go_at_call 29; (with_reducible refine (expr_May.calls kj30 ((rd_T40 l0 x19_1).f2.f0) ((rd_T40 l0 x19_1).f2.f1) ((rd_T40 l0 x19_1).f2.f2) _ _ ((rd_T40 l0 x19_1).f2.f3) t111 _ ?side1 ?side2 A41.out (by first | exact HT0.out | exact UT.below HT0.out qb)).mono ?_); (case side1 => exact qC HR101_5.out); (case side2 => exact HC101_5.out); rintro e w43 ⟨rfl, hb⟩; have n0_ := qn102 (g := gb102) hb; have n1_ := qs hb; clear BK102; clear HB; have BK102 := n0_; have HB := n1_; clear n0_ n1_; (try clear hb)))
           go_meet
           case rel => exact ⟨_, (!t111), qv, H', ⟨by have := HK1.out; have := HJ8.out; have := HJ26.out; have := HJ30.out; first | omega | exact Nat.le_refl _⟩, qk102, qB⟩
          rw [if_neg c40] at H
          obtain ⟨c40b0, c40b1⟩ := qd c40
          (first | rw [c40b0] | (simp only [i64_w, i32_w]; rw [c40b0]) | skip)
          have H' := Aside0.mk H
          clear H
          obtain ⟨_, _, _, _, _, _, _, _, _, _, _, _⟩ := q6 BK102.out
          go_wp2
          go_meet
          case rel => exact ⟨_, (false), qv, H', ⟨by have := HK1.out; have := HJ8.out; have := HJ26.out; have := HJ30.out; first | omega | exact Nat.le_refl _⟩, qk102, qB⟩
         clear HC39
         obtain ⟨kq, x68_38, rfl, HA, HJ38, BK102, HB⟩ := hcut
         cases kq with
         | zero => exact absurd HA.out (by simp [rung_code.j4])
         | succ kj38 =>
          have H := HA.out
          clear HA
          simp only [rung_code.j4] at H
          by_cases c45 : x68_38 = true
          ·subst c45
           rw [if_pos rfl] at H
           obtain rfl := Option.some.inj H
           go_wp2
           go_ret
           exact qr
          replace c45 := Bool.eq_false_iff.mpr c45
          subst c45
          rw [if_neg qf] at H
          by_cases c46 : x7_1 < t104
          ·rw [if_pos c46] at H
           have c46b0 : decide (x7_1 < t104) = true := decide_eq_true c46
           clear c46
           obtain rfl := Option.some.inj H
           go_wp2
           go_ret
           exact qr
          rw [if_neg c46] at H
          have c46b0 : decide (x7_1 < t104) = false := decide_eq_false c46
          clear c46
          by_cases c47 : (wrap64 ((wrap64 (x7_1 - t104)) + t105)) > 8
          ·rw [if_pos c47] at H
           have c47b0 : decide (8 < (wrap64 ((wrap64 (x7_1 - t104)) + t105))) = true := decide_eq_true c47
           clear c47
           obtain rfl := Option.some.inj H
           go_wp2
           go_ret
           exact qr
          rw [if_neg c47] at H
          have c47b0 : decide (8 < (wrap64 ((wrap64 (x7_1 - t104)) + t105))) = false := decide_eq_false c47
          clear c47
          have H' := Aside0.mk H
          clear H
          go_wp2
          go_roundg kj38
          case measure => have := HK1.out; have := HJ8.out; have := HJ26.out; have := HJ30.out; have := HJ38.out; omega
          case rel => exact ⟨(wrap64 (x7_1 + (wrap64 (t105 - t104)))), (wrap64 (x19_1 + 1)), qv, qv, H', ⟨by have := HK1.out; have := HJ8.out; have := HJ26.out; have := HJ30.out; have := HJ38.out; omega⟩, qB⟩
     rw [if_neg c7] at H
     exact absurd H (by simp)
    rw [if_neg c6] at H
    exact absurd H (by simp)
   rw [if_neg c5] at H
   have c5b0 : decide (x19_1 < (l0.length : Int)) = false := decide_eq_false c5
   clear c5
   by_cases c48 : x7_1 = 1
   ·rw [if_pos c48] at H
    obtain ⟨c48b0, c48b1⟩ := qe c48
    clear c48
    obtain rfl := Option.some.inj H
    go_wp2
    go_ret
    exact qr
   rw [if_neg c48] at H
   obtain ⟨c48b0, c48b1⟩ := qd c48
   obtain rfl := Option.some.inj H
   go_wp2
   go_ret
   exact qr
end Go.Proofs.YtiaccdaeomaogaaDoor.F
