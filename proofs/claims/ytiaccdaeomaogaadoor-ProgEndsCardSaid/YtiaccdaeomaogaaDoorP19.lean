/- Texts of one claim, slimmed and merged by slim.py. -/
import Derived.Test.YtiaccdaeomaogaaDoorP4
import Derived.Test.YtiaccdaeomaogaaDoorP7
import Derived.Test.YtiaccdaeomaogaaDoorP9
import Derived.Test.YtiaccdaeomaogaaDoorP12
import Derived.Test.YtiaccdaeomaogaaDoorP14
import Derived.Test.YtiaccdaeomaogaaDoorP18
namespace Go.Proofs.YtiaccdaeomaogaaDoor.F
open Go.RowKit Go.Proofs.YtiaccdaeomaogaaDoorW.PrintWords Go.Proofs.YtiaccdaeomaogaaDoorW.PrintLast Go.Proofs.YtiaccdaeomaogaaDoorW.PrintMore
attribute [local go_sem] max2_int min2_int max_two min_two max_three min_three max_four min_four   -- for this text's walks alone
set_option linter.unusedVariables false
set_option linter.unusedSimpArgs false
mutual
def prog_names_step.j0 : Nat → Int → Bool → Bool → List ByteArray → List ByteArray → List ByteArray → Int → ByteArray → ByteArray → Int → Int → ByteArray → List (S34) → Int → Option (Int)
 | 0, _, _, _, _, _, _, _, _, _, _, _, _, _, _ => none
 | k + 1, x2, x9, x63, x102000, x102001, x102002, x103000, x103001, x103002, x103003, x103004, x103005, x103006, x103007 => if x63 = true then (some 1) else (if x103000 = 0 then ((slices_Contains_string_string.f k x102000 x103001).bind fun t112 => (if t112 = true then (prog_names_step.j3 k x9 x102000 x102001 x102002 x103000 x103001 x103002 x103003 x103004 x103005 x103006 x103007) else (some 4))) else (if x103000 = 3 then (prog_names_step.j1 k x2 x9 x103000 (x103000 == 3) x102000 x102001 x102002 x103000 x103001 x103002 x103003 x103004 x103005 x103006 x103007) else (if x103000 = 4 then (prog_names_step.j1 k x2 x9 x103000 (x103000 == 4) x102000 x102001 x102002 x103000 x103001 x103002 x103003 x103004 x103005 x103006 x103007) else (prog_names_step.j1 k x2 x9 x103000 (x103000 == 5) x102000 x102001 x102002 x103000 x103001 x103002 x103003 x103004 x103005 x103006 x103007))))
def prog_names_step.j3 : Nat → Bool → List ByteArray → List ByteArray → List ByteArray → Int → ByteArray → ByteArray → Int → Int → ByteArray → List (S34) → Int → Option (Int)
 | 0, _, _, _, _, _, _, _, _, _, _, _, _ => none
 | k + 1, x9, x102000, x102001, x102002, x103000, x103001, x103002, x103003, x103004, x103005, x103006, x103007 => if x9 = true then ((expr_May.f k x103003 x103004 x103005 x103006).bind fun t118 => (if t118 = true then ((expr_Names.f k x103003 x103004 x103005 x103006).bind fun t119 => (prog_names_step.l0 k t119 (t119.length : Int) 0 x102000 x102001 x102002)) else (some 1))) else (some 0)
def prog_names_step.l0 : Nat → List ByteArray → Int → Int → List ByteArray → List ByteArray → List ByteArray → Option (Int)
 | 0, _, _, _, _, _, _ => none
 | k + 1, x147, x148, x149, x102000, x102001, x102002 => if x149 < x148 then (if 0 ≤ x149 then (if x149 < (x147.length : Int) then ((slices_Contains_string_string.f k x102002 (rdOf ByteArray.empty x147 x149)).bind fun t123 => (if t123 = true then (prog_names_step.l0 k x147 x148 (wrap64 (x149 + 1)) x102000 x102001 x102002) else (some 4))) else (none)) else (none)) else (some 0)
def prog_names_step.j1 : Nat → Int → Bool → Int → Bool → List ByteArray → List ByteArray → List ByteArray → Int → ByteArray → ByteArray → Int → Int → ByteArray → List (S34) → Int → Option (Int)
 | 0, _, _, _, _, _, _, _, _, _, _, _, _, _, _, _ => none
 | k + 1, x2, x9, x65, x74, x102000, x102001, x102002, x103000, x103001, x103002, x103003, x103004, x103005, x103006, x103007 => if x74 = true then ((slices_Contains_string_string.f k x102001 x103001).bind fun t113 => (if t113 = true then (if x103000 = 5 then ((slices_Contains_string_string.f k x102001 x103002).bind fun t114 => (prog_names_step.j2 k x9 (!t114) x102000 x102001 x102002 x103000 x103001 x103002 x103003 x103004 x103005 x103006 x103007)) else (prog_names_step.j2 k x9 false x102000 x102001 x102002 x103000 x103001 x103002 x103003 x103004 x103005 x103006 x103007)) else (prog_names_step.j2 k x9 true x102000 x102001 x102002 x103000 x103001 x103002 x103003 x103004 x103005 x103006 x103007))) else (if x65 = 7 then ((lex_Quote.f x103001).bind fun bt116 => (if bt116.2 = true then (prog_names_step.j3 k x9 x102000 x102001 x102002 x103000 x103001 x103002 x103003 x103004 x103005 x103006 x103007) else (some 1))) else (if x65 = 6 then (if x103007 < 0 then (some 1) else (if x103007 > x2 then (some 1) else (prog_names_step.j3 k x9 x102000 x102001 x102002 x103000 x103001 x103002 x103003 x103004 x103005 x103006 x103007))) else (prog_names_step.j3 k x9 x102000 x102001 x102002 x103000 x103001 x103002 x103003 x103004 x103005 x103006 x103007)))
def prog_names_step.j2 : Nat → Bool → Bool → List ByteArray → List ByteArray → List ByteArray → Int → ByteArray → ByteArray → Int → Int → ByteArray → List (S34) → Int → Option (Int)
 | 0, _, _, _, _, _, _, _, _, _, _, _, _, _ => none
 | k + 1, x9, x96, x102000, x102001, x102002, x103000, x103001, x103002, x103003, x103004, x103005, x103006, x103007 => if x96 = true then (some 4) else (if x103000 = 3 then ((lex_Name.f x103002).bind fun t115 => (if t115 = true then (if x103000 = 5 then (if x103002.toList = x103001.toList then (some 1) else (prog_names_step.j3 k x9 x102000 x102001 x102002 x103000 x103001 x103002 x103003 x103004 x103005 x103006 x103007)) else (prog_names_step.j3 k x9 x102000 x102001 x102002 x103000 x103001 x103002 x103003 x103004 x103005 x103006 x103007)) else (some 1))) else (if x103000 = 5 then (if x103002.toList = x103001.toList then (some 1) else (prog_names_step.j3 k x9 x102000 x102001 x102002 x103000 x103001 x103002 x103003 x103004 x103005 x103006 x103007)) else (prog_names_step.j3 k x9 x102000 x102001 x102002 x103000 x103001 x103002 x103003 x103004 x103005 x103006 x103007)))
end
def prog_names_step.f (k : Nat) (l0_0 : List ByteArray) (l0_1 : List ByteArray) (l0_2 : List ByteArray) (a1_0 : Int) (a1_1 : ByteArray) (a1_2 : ByteArray) (a1_3 : Int) (a1_4 : Int) (a1_5 : ByteArray) (l1_6 : List (S34)) (a1_7 : Int) (a2 : Int) : Option (Int) := (prog_uses.f k a1_0).bind fun bt103 => (if bt103.2.2.2.2 = true then (if bt103.1 = true then (if bt103.2.1 = true then (if bt103.2.2.1 = true then (if bt103.2.2.2.1 = true then (prog_names_step.j0 k a2 bt103.2.2.1 false l0_0 l0_1 l0_2 a1_0 a1_1 a1_2 a1_3 a1_4 a1_5 l1_6 a1_7) else (prog_names_step.j0 k a2 bt103.2.2.1 (a1_7 != 0) l0_0 l0_1 l0_2 a1_0 a1_1 a1_2 a1_3 a1_4 a1_5 l1_6 a1_7)) else ((prog_blank.f a1_3 a1_4 a1_5 l1_6).bind fun t108 => (if t108 = true then (if bt103.2.2.2.1 = true then (prog_names_step.j0 k a2 bt103.2.2.1 false l0_0 l0_1 l0_2 a1_0 a1_1 a1_2 a1_3 a1_4 a1_5 l1_6 a1_7) else (prog_names_step.j0 k a2 bt103.2.2.1 (a1_7 != 0) l0_0 l0_1 l0_2 a1_0 a1_1 a1_2 a1_3 a1_4 a1_5 l1_6 a1_7)) else (prog_names_step.j0 k a2 bt103.2.2.1 true l0_0 l0_1 l0_2 a1_0 a1_1 a1_2 a1_3 a1_4 a1_5 l1_6 a1_7)))) else (if a1_2.toList = ([] : List UInt8) then (if bt103.2.2.1 = true then (if bt103.2.2.2.1 = true then (prog_names_step.j0 k a2 bt103.2.2.1 false l0_0 l0_1 l0_2 a1_0 a1_1 a1_2 a1_3 a1_4 a1_5 l1_6 a1_7) else (prog_names_step.j0 k a2 bt103.2.2.1 (a1_7 != 0) l0_0 l0_1 l0_2 a1_0 a1_1 a1_2 a1_3 a1_4 a1_5 l1_6 a1_7)) else ((prog_blank.f a1_3 a1_4 a1_5 l1_6).bind fun t109 => (if t109 = true then (if bt103.2.2.2.1 = true then (prog_names_step.j0 k a2 bt103.2.2.1 false l0_0 l0_1 l0_2 a1_0 a1_1 a1_2 a1_3 a1_4 a1_5 l1_6 a1_7) else (prog_names_step.j0 k a2 bt103.2.2.1 (a1_7 != 0) l0_0 l0_1 l0_2 a1_0 a1_1 a1_2 a1_3 a1_4 a1_5 l1_6 a1_7)) else (prog_names_step.j0 k a2 bt103.2.2.1 true l0_0 l0_1 l0_2 a1_0 a1_1 a1_2 a1_3 a1_4 a1_5 l1_6 a1_7)))) else (prog_names_step.j0 k a2 bt103.2.2.1 true l0_0 l0_1 l0_2 a1_0 a1_1 a1_2 a1_3 a1_4 a1_5 l1_6 a1_7))) else (if a1_1.toList = ([] : List UInt8) then (if bt103.2.1 = true then (if bt103.2.2.1 = true then (if bt103.2.2.2.1 = true then (prog_names_step.j0 k a2 bt103.2.2.1 false l0_0 l0_1 l0_2 a1_0 a1_1 a1_2 a1_3 a1_4 a1_5 l1_6 a1_7) else (prog_names_step.j0 k a2 bt103.2.2.1 (a1_7 != 0) l0_0 l0_1 l0_2 a1_0 a1_1 a1_2 a1_3 a1_4 a1_5 l1_6 a1_7)) else ((prog_blank.f a1_3 a1_4 a1_5 l1_6).bind fun t110 => (if t110 = true then (if bt103.2.2.2.1 = true then (prog_names_step.j0 k a2 bt103.2.2.1 false l0_0 l0_1 l0_2 a1_0 a1_1 a1_2 a1_3 a1_4 a1_5 l1_6 a1_7) else (prog_names_step.j0 k a2 bt103.2.2.1 (a1_7 != 0) l0_0 l0_1 l0_2 a1_0 a1_1 a1_2 a1_3 a1_4 a1_5 l1_6 a1_7)) else (prog_names_step.j0 k a2 bt103.2.2.1 true l0_0 l0_1 l0_2 a1_0 a1_1 a1_2 a1_3 a1_4 a1_5 l1_6 a1_7)))) else (if a1_2.toList = ([] : List UInt8) then (if bt103.2.2.1 = true then (if bt103.2.2.2.1 = true then (prog_names_step.j0 k a2 bt103.2.2.1 false l0_0 l0_1 l0_2 a1_0 a1_1 a1_2 a1_3 a1_4 a1_5 l1_6 a1_7) else (prog_names_step.j0 k a2 bt103.2.2.1 (a1_7 != 0) l0_0 l0_1 l0_2 a1_0 a1_1 a1_2 a1_3 a1_4 a1_5 l1_6 a1_7)) else ((prog_blank.f a1_3 a1_4 a1_5 l1_6).bind fun t111 => (if t111 = true then (if bt103.2.2.2.1 = true then (prog_names_step.j0 k a2 bt103.2.2.1 false l0_0 l0_1 l0_2 a1_0 a1_1 a1_2 a1_3 a1_4 a1_5 l1_6 a1_7) else (prog_names_step.j0 k a2 bt103.2.2.1 (a1_7 != 0) l0_0 l0_1 l0_2 a1_0 a1_1 a1_2 a1_3 a1_4 a1_5 l1_6 a1_7)) else (prog_names_step.j0 k a2 bt103.2.2.1 true l0_0 l0_1 l0_2 a1_0 a1_1 a1_2 a1_3 a1_4 a1_5 l1_6 a1_7)))) else (prog_names_step.j0 k a2 bt103.2.2.1 true l0_0 l0_1 l0_2 a1_0 a1_1 a1_2 a1_3 a1_4 a1_5 l1_6 a1_7))) else (prog_names_step.j0 k a2 bt103.2.2.1 true l0_0 l0_1 l0_2 a1_0 a1_1 a1_2 a1_3 a1_4 a1_5 l1_6 a1_7))) else (prog_names_step.j0 k a2 bt103.2.2.1 true l0_0 l0_1 l0_2 a1_0 a1_1 a1_2 a1_3 a1_4 a1_5 l1_6 a1_7))
theorem prog_names_step.mono_l : ∀ k, (∀ y0 y1 y2 y3 y4 y5 y6 y7 y8 y9 y10 y11 y12 y13, LeO (prog_names_step.j0 k y0 y1 y2 y3 y4 y5 y6 y7 y8 y9 y10 y11 y12 y13) (prog_names_step.j0 (k + 1) y0 y1 y2 y3 y4 y5 y6 y7 y8 y9 y10 y11 y12 y13)) ∧ (∀ y0 y1 y2 y3 y4 y5 y6 y7 y8 y9 y10 y11, LeO (prog_names_step.j3 k y0 y1 y2 y3 y4 y5 y6 y7 y8 y9 y10 y11) (prog_names_step.j3 (k + 1) y0 y1 y2 y3 y4 y5 y6 y7 y8 y9 y10 y11)) ∧ (∀ y0 y1 y2 y3 y4 y5, LeO (prog_names_step.l0 k y0 y1 y2 y3 y4 y5) (prog_names_step.l0 (k + 1) y0 y1 y2 y3 y4 y5)) ∧ (∀ y0 y1 y2 y3 y4 y5 y6 y7 y8 y9 y10 y11 y12 y13 y14, LeO (prog_names_step.j1 k y0 y1 y2 y3 y4 y5 y6 y7 y8 y9 y10 y11 y12 y13 y14) (prog_names_step.j1 (k + 1) y0 y1 y2 y3 y4 y5 y6 y7 y8 y9 y10 y11 y12 y13 y14)) ∧ (∀ y0 y1 y2 y3 y4 y5 y6 y7 y8 y9 y10 y11 y12, LeO (prog_names_step.j2 k y0 y1 y2 y3 y4 y5 y6 y7 y8 y9 y10 y11 y12) (prog_names_step.j2 (k + 1) y0 y1 y2 y3 y4 y5 y6 y7 y8 y9 y10 y11 y12))
 | 0 => ⟨fun _ _ _ _ _ _ _ _ _ _ _ _ _ _ r h => by simp [prog_names_step.j0] at h, fun _ _ _ _ _ _ _ _ _ _ _ _ r h => by simp [prog_names_step.j3] at h, fun _ _ _ _ _ _ r h => by simp [prog_names_step.l0] at h, fun _ _ _ _ _ _ _ _ _ _ _ _ _ _ _ r h => by simp [prog_names_step.j1] at h, fun _ _ _ _ _ _ _ _ _ _ _ _ _ r h => by simp [prog_names_step.j2] at h⟩
 | k + 1 => by
  obtain ⟨ih0, ih1, ih2, ih3, ih4⟩ := prog_names_step.mono_l k
  refine ⟨?_, ?_, ?_, ?_, ?_⟩
  ·intro y0 y1 y2 y3 y4 y5 y6 y7 y8 y9 y10 y11 y12 y13
   unfold prog_names_step.j0
   repeat' first
   | (with_reducible exact ih0 _ _ _ _ _ _ _ _ _ _ _ _ _ _)
   | (with_reducible exact ih1 _ _ _ _ _ _ _ _ _ _ _ _)
   | (with_reducible exact ih2 _ _ _ _ _ _)
   | (with_reducible exact ih3 _ _ _ _ _ _ _ _ _ _ _ _ _ _ _)
   | (with_reducible exact ih4 _ _ _ _ _ _ _ _ _ _ _ _ _)
   | (with_reducible exact expr_May.mono _ _ _ _ _)
   | (with_reducible exact expr_Names.mono _ _ _ _ _)
   | (with_reducible exact prog_uses.mono _ _)
   | (with_reducible exact slices_Contains_string_string.mono _ _ _)
   | (with_reducible exact LeO.refl _)
   | (with_reducible exact LeO.none _)
   | (with_reducible refine LeO.ite ?_ ?_)
   | (with_reducible refine LeO.bind ?_ (fun _ => ?_))
   | exact ih0 _ _ _ _ _ _ _ _ _ _ _ _ _ _
   | exact ih1 _ _ _ _ _ _ _ _ _ _ _ _
   | exact ih2 _ _ _ _ _ _
   | exact ih3 _ _ _ _ _ _ _ _ _ _ _ _ _ _ _
   | exact ih4 _ _ _ _ _ _ _ _ _ _ _ _ _
   | exact expr_May.mono _ _ _ _ _
   | exact expr_Names.mono _ _ _ _ _
   | exact prog_uses.mono _ _
   | exact slices_Contains_string_string.mono _ _ _
   | exact LeO.none _
   | refine LeO.ite ?_ ?_
   | refine LeO.bind ?_ (fun _ => ?_)
  ·intro y0 y1 y2 y3 y4 y5 y6 y7 y8 y9 y10 y11
   unfold prog_names_step.j3
   repeat' first
   | (with_reducible exact ih0 _ _ _ _ _ _ _ _ _ _ _ _ _ _)
   | (with_reducible exact ih1 _ _ _ _ _ _ _ _ _ _ _ _)
   | (with_reducible exact ih2 _ _ _ _ _ _)
   | (with_reducible exact ih3 _ _ _ _ _ _ _ _ _ _ _ _ _ _ _)
   | (with_reducible exact ih4 _ _ _ _ _ _ _ _ _ _ _ _ _)
   | (with_reducible exact expr_May.mono _ _ _ _ _)
   | (with_reducible exact expr_Names.mono _ _ _ _ _)
   | (with_reducible exact prog_uses.mono _ _)
   | (with_reducible exact slices_Contains_string_string.mono _ _ _)
   | (with_reducible exact LeO.refl _)
   | (with_reducible exact LeO.none _)
   | (with_reducible refine LeO.ite ?_ ?_)
   | (with_reducible refine LeO.bind ?_ (fun _ => ?_))
   | exact ih0 _ _ _ _ _ _ _ _ _ _ _ _ _ _
   | exact ih1 _ _ _ _ _ _ _ _ _ _ _ _
   | exact ih2 _ _ _ _ _ _
   | exact ih3 _ _ _ _ _ _ _ _ _ _ _ _ _ _ _
   | exact ih4 _ _ _ _ _ _ _ _ _ _ _ _ _
   | exact expr_May.mono _ _ _ _ _
   | exact expr_Names.mono _ _ _ _ _
   | exact prog_uses.mono _ _
   | exact slices_Contains_string_string.mono _ _ _
   | exact LeO.none _
   | refine LeO.ite ?_ ?_
   | refine LeO.bind ?_ (fun _ => ?_)
  ·intro y0 y1 y2 y3 y4 y5
   unfold prog_names_step.l0
   repeat' first
   | (with_reducible exact ih0 _ _ _ _ _ _ _ _ _ _ _ _ _ _)
   | (with_reducible exact ih1 _ _ _ _ _ _ _ _ _ _ _ _)
   | (with_reducible exact ih2 _ _ _ _ _ _)
   | (with_reducible exact ih3 _ _ _ _ _ _ _ _ _ _ _ _ _ _ _)
   | (with_reducible exact ih4 _ _ _ _ _ _ _ _ _ _ _ _ _)
   | (with_reducible exact expr_May.mono _ _ _ _ _)
   | (with_reducible exact expr_Names.mono _ _ _ _ _)
   | (with_reducible exact prog_uses.mono _ _)
   | (with_reducible exact slices_Contains_string_string.mono _ _ _)
   | (with_reducible exact LeO.refl _)
   | (with_reducible exact LeO.none _)
   | (with_reducible refine LeO.ite ?_ ?_)
   | (with_reducible refine LeO.bind ?_ (fun _ => ?_))
   | exact ih0 _ _ _ _ _ _ _ _ _ _ _ _ _ _
   | exact ih1 _ _ _ _ _ _ _ _ _ _ _ _
   | exact ih2 _ _ _ _ _ _
   | exact ih3 _ _ _ _ _ _ _ _ _ _ _ _ _ _ _
   | exact ih4 _ _ _ _ _ _ _ _ _ _ _ _ _
   | exact expr_May.mono _ _ _ _ _
   | exact expr_Names.mono _ _ _ _ _
   | exact prog_uses.mono _ _
   | exact slices_Contains_string_string.mono _ _ _
   | exact LeO.none _
   | refine LeO.ite ?_ ?_
   | refine LeO.bind ?_ (fun _ => ?_)
  ·intro y0 y1 y2 y3 y4 y5 y6 y7 y8 y9 y10 y11 y12 y13 y14
   unfold prog_names_step.j1
   repeat' first
   | (with_reducible exact ih0 _ _ _ _ _ _ _ _ _ _ _ _ _ _)
   | (with_reducible exact ih1 _ _ _ _ _ _ _ _ _ _ _ _)
   | (with_reducible exact ih2 _ _ _ _ _ _)
   | (with_reducible exact ih3 _ _ _ _ _ _ _ _ _ _ _ _ _ _ _)
   | (with_reducible exact ih4 _ _ _ _ _ _ _ _ _ _ _ _ _)
   | (with_reducible exact expr_May.mono _ _ _ _ _)
   | (with_reducible exact expr_Names.mono _ _ _ _ _)
   | (with_reducible exact prog_uses.mono _ _)
   | (with_reducible exact slices_Contains_string_string.mono _ _ _)
   | (with_reducible exact LeO.refl _)
   | (with_reducible exact LeO.none _)
   | (with_reducible refine LeO.ite ?_ ?_)
   | (with_reducible refine LeO.bind ?_ (fun _ => ?_))
   | exact ih0 _ _ _ _ _ _ _ _ _ _ _ _ _ _
   | exact ih1 _ _ _ _ _ _ _ _ _ _ _ _
   | exact ih2 _ _ _ _ _ _
   | exact ih3 _ _ _ _ _ _ _ _ _ _ _ _ _ _ _
   | exact ih4 _ _ _ _ _ _ _ _ _ _ _ _ _
   | exact expr_May.mono _ _ _ _ _
   | exact expr_Names.mono _ _ _ _ _
   | exact prog_uses.mono _ _
   | exact slices_Contains_string_string.mono _ _ _
   | exact LeO.none _
   | refine LeO.ite ?_ ?_
   | refine LeO.bind ?_ (fun _ => ?_)
  ·intro y0 y1 y2 y3 y4 y5 y6 y7 y8 y9 y10 y11 y12
   unfold prog_names_step.j2
   repeat' first
   | (with_reducible exact ih0 _ _ _ _ _ _ _ _ _ _ _ _ _ _)
   | (with_reducible exact ih1 _ _ _ _ _ _ _ _ _ _ _ _)
   | (with_reducible exact ih2 _ _ _ _ _ _)
   | (with_reducible exact ih3 _ _ _ _ _ _ _ _ _ _ _ _ _ _ _)
   | (with_reducible exact ih4 _ _ _ _ _ _ _ _ _ _ _ _ _)
   | (with_reducible exact expr_May.mono _ _ _ _ _)
   | (with_reducible exact expr_Names.mono _ _ _ _ _)
   | (with_reducible exact prog_uses.mono _ _)
   | (with_reducible exact slices_Contains_string_string.mono _ _ _)
   | (with_reducible exact LeO.refl _)
   | (with_reducible exact LeO.none _)
   | (with_reducible refine LeO.ite ?_ ?_)
   | (with_reducible refine LeO.bind ?_ (fun _ => ?_))
   | exact ih0 _ _ _ _ _ _ _ _ _ _ _ _ _ _
   | exact ih1 _ _ _ _ _ _ _ _ _ _ _ _
   | exact ih2 _ _ _ _ _ _
   | exact ih3 _ _ _ _ _ _ _ _ _ _ _ _ _ _ _
   | exact ih4 _ _ _ _ _ _ _ _ _ _ _ _ _
   | exact expr_May.mono _ _ _ _ _
   | exact expr_Names.mono _ _ _ _ _
   | exact prog_uses.mono _ _
   | exact slices_Contains_string_string.mono _ _ _
   | exact LeO.none _
   | refine LeO.ite ?_ ?_
   | refine LeO.bind ?_ (fun _ => ?_)
theorem prog_names_step.mono : ∀ a0 a1 a2 a3 a4 a5 a6 a7 a8 a9 a10 a11 k, LeO (prog_names_step.f k a0 a1 a2 a3 a4 a5 a6 a7 a8 a9 a10 a11) (prog_names_step.f (k + 1) a0 a1 a2 a3 a4 a5 a6 a7 a8 a9 a10 a11) := by
 intro a0 a1 a2 a3 a4 a5 a6 a7 a8 a9 a10 a11 k
 obtain ⟨ih0, ih1, ih2, ih3, ih4⟩ := prog_names_step.mono_l k
 unfold prog_names_step.f
 repeat' first
   | (with_reducible exact ih0 _ _ _ _ _ _ _ _ _ _ _ _ _ _)
   | (with_reducible exact ih1 _ _ _ _ _ _ _ _ _ _ _ _)
   | (with_reducible exact ih2 _ _ _ _ _ _)
   | (with_reducible exact ih3 _ _ _ _ _ _ _ _ _ _ _ _ _ _ _)
   | (with_reducible exact ih4 _ _ _ _ _ _ _ _ _ _ _ _ _)
   | (with_reducible exact expr_May.mono _ _ _ _ _)
   | (with_reducible exact expr_Names.mono _ _ _ _ _)
   | (with_reducible exact prog_uses.mono _ _)
   | (with_reducible exact slices_Contains_string_string.mono _ _ _)
   | (with_reducible exact LeO.refl _)
   | (with_reducible exact LeO.none _)
   | (with_reducible refine LeO.ite ?_ ?_)
   | (with_reducible refine LeO.bind ?_ (fun _ => ?_))
   | exact ih0 _ _ _ _ _ _ _ _ _ _ _ _ _ _
   | exact ih1 _ _ _ _ _ _ _ _ _ _ _ _
   | exact ih2 _ _ _ _ _ _
   | exact ih3 _ _ _ _ _ _ _ _ _ _ _ _ _ _ _
   | exact ih4 _ _ _ _ _ _ _ _ _ _ _ _ _
   | exact expr_May.mono _ _ _ _ _
   | exact expr_Names.mono _ _ _ _ _
   | exact prog_uses.mono _ _
   | exact slices_Contains_string_string.mono _ _ _
   | exact LeO.none _
   | refine LeO.ite ?_ ?_
   | refine LeO.bind ?_ (fun _ => ?_)
set_option maxHeartbeats 8000000 in
set_option maxRecDepth 100000 in
theorem prog_names_step.calls (k : Nat) (A0_0 : Option Addr) (c0_0 : Nat) (l0_0 : List ByteArray) (A0_1 : Option Addr) (c0_1 : Nat) (l0_1 : List ByteArray) (A0_2 : Option Addr) (c0_2 : Nat) (l0_2 : List ByteArray) (a1_0 : Int) (a1_1 : ByteArray) (a1_2 : ByteArray) (a1_3 : Int) (a1_4 : Int) (a1_5 : ByteArray) (A1_6 : Option Addr) (c1_6 : Nat) (l1_6 : List (S34)) (a1_7 : Int) (a2 : Int) (r : Int) (w : World) (hr0_0 : Kd.C Kd.string w A0_0 l0_0.length l0_0) (hc0_0 : l0_0.length ≤ c0_0) (hr0_1 : Kd.C Kd.string w A0_1 l0_1.length l0_1) (hc0_1 : l0_1.length ≤ c0_1) (hr0_2 : Kd.C Kd.string w A0_2 l0_2.length l0_2) (hc0_2 : l0_2.length ≤ c0_2) (hr1_6 : Kd.C k34 w A1_6 l1_6.length l1_6) (hc1_6 : l1_6.length ≤ c1_6) (h : prog_names_step.f k l0_0 l0_1 l0_2 a1_0 a1_1 a1_2 a1_3 a1_4 a1_5 l1_6 a1_7 a2 = some r) (hT : UT w) :
  Calls Tryd.prog 73 #[.agg #[.slice A0_0 l0_0.length c0_0, .slice A0_1 l0_1.length c0_1, .slice A0_2 l0_2.length c0_2], .agg #[.int .i64 a1_0, .string a1_1, .string a1_2, .int .i64 a1_3, .int .i64 a1_4, .string a1_5, .slice A1_6 l1_6.length c1_6, .int .i64 a1_7], .int .i64 a2] w fun e w' => e = .returned (.int .i64 r) ∧ Below w.heap.size w w' := by
 have HT0 := Aside0.mk hT
 clear hT
 have hu121 := Tryd.underlying121
 have hu67 := Tryd.underlying67
 have hu34 := Tryd.underlying34
 have HR0_0 := Aside0.mk hr0_0
 have HC0_0 := Aside0.mk hc0_0
 clear hr0_0 hc0_0
 have HR0_1 := Aside0.mk hr0_1
 have HC0_1 := Aside0.mk hc0_1
 clear hr0_1 hc0_1
 have HR0_2 := Aside0.mk hr0_2
 have HC0_2 := Aside0.mk hc0_2
 clear hr0_2 hc0_2
 have HR1_6 := Aside0.mk hr1_6
 have HC1_6 := Aside0.mk hc1_6
 clear hr1_6 hc1_6
 have HB := Aside0.mk (Below.refl w.heap.size w)
 have H : ((prog_uses.f k a1_0).bind fun bt103 => (if bt103.2.2.2.2 = true then (if bt103.1 = true then (if bt103.2.1 = true then (if bt103.2.2.1 = true then (if bt103.2.2.2.1 = true then (prog_names_step.j0 k a2 bt103.2.2.1 false l0_0 l0_1 l0_2 a1_0 a1_1 a1_2 a1_3 a1_4 a1_5 l1_6 a1_7) else (prog_names_step.j0 k a2 bt103.2.2.1 (a1_7 != 0) l0_0 l0_1 l0_2 a1_0 a1_1 a1_2 a1_3 a1_4 a1_5 l1_6 a1_7)) else ((prog_blank.f a1_3 a1_4 a1_5 l1_6).bind fun t108 => (if t108 = true then (if bt103.2.2.2.1 = true then (prog_names_step.j0 k a2 bt103.2.2.1 false l0_0 l0_1 l0_2 a1_0 a1_1 a1_2 a1_3 a1_4 a1_5 l1_6 a1_7) else (prog_names_step.j0 k a2 bt103.2.2.1 (a1_7 != 0) l0_0 l0_1 l0_2 a1_0 a1_1 a1_2 a1_3 a1_4 a1_5 l1_6 a1_7)) else (prog_names_step.j0 k a2 bt103.2.2.1 true l0_0 l0_1 l0_2 a1_0 a1_1 a1_2 a1_3 a1_4 a1_5 l1_6 a1_7)))) else (if a1_2.toList = ([] : List UInt8) then (if bt103.2.2.1 = true then (if bt103.2.2.2.1 = true then (prog_names_step.j0 k a2 bt103.2.2.1 false l0_0 l0_1 l0_2 a1_0 a1_1 a1_2 a1_3 a1_4 a1_5 l1_6 a1_7) else (prog_names_step.j0 k a2 bt103.2.2.1 (a1_7 != 0) l0_0 l0_1 l0_2 a1_0 a1_1 a1_2 a1_3 a1_4 a1_5 l1_6 a1_7)) else ((prog_blank.f a1_3 a1_4 a1_5 l1_6).bind fun t109 => (if t109 = true then (if bt103.2.2.2.1 = true then (prog_names_step.j0 k a2 bt103.2.2.1 false l0_0 l0_1 l0_2 a1_0 a1_1 a1_2 a1_3 a1_4 a1_5 l1_6 a1_7) else (prog_names_step.j0 k a2 bt103.2.2.1 (a1_7 != 0) l0_0 l0_1 l0_2 a1_0 a1_1 a1_2 a1_3 a1_4 a1_5 l1_6 a1_7)) else (prog_names_step.j0 k a2 bt103.2.2.1 true l0_0 l0_1 l0_2 a1_0 a1_1 a1_2 a1_3 a1_4 a1_5 l1_6 a1_7)))) else (prog_names_step.j0 k a2 bt103.2.2.1 true l0_0 l0_1 l0_2 a1_0 a1_1 a1_2 a1_3 a1_4 a1_5 l1_6 a1_7))) else (if a1_1.toList = ([] : List UInt8) then (if bt103.2.1 = true then (if bt103.2.2.1 = true then (if bt103.2.2.2.1 = true then (prog_names_step.j0 k a2 bt103.2.2.1 false l0_0 l0_1 l0_2 a1_0 a1_1 a1_2 a1_3 a1_4 a1_5 l1_6 a1_7) else (prog_names_step.j0 k a2 bt103.2.2.1 (a1_7 != 0) l0_0 l0_1 l0_2 a1_0 a1_1 a1_2 a1_3 a1_4 a1_5 l1_6 a1_7)) else ((prog_blank.f a1_3 a1_4 a1_5 l1_6).bind fun t110 => (if t110 = true then (if bt103.2.2.2.1 = true then (prog_names_step.j0 k a2 bt103.2.2.1 false l0_0 l0_1 l0_2 a1_0 a1_1 a1_2 a1_3 a1_4 a1_5 l1_6 a1_7) else (prog_names_step.j0 k a2 bt103.2.2.1 (a1_7 != 0) l0_0 l0_1 l0_2 a1_0 a1_1 a1_2 a1_3 a1_4 a1_5 l1_6 a1_7)) else (prog_names_step.j0 k a2 bt103.2.2.1 true l0_0 l0_1 l0_2 a1_0 a1_1 a1_2 a1_3 a1_4 a1_5 l1_6 a1_7)))) else (if a1_2.toList = ([] : List UInt8) then (if bt103.2.2.1 = true then (if bt103.2.2.2.1 = true then (prog_names_step.j0 k a2 bt103.2.2.1 false l0_0 l0_1 l0_2 a1_0 a1_1 a1_2 a1_3 a1_4 a1_5 l1_6 a1_7) else (prog_names_step.j0 k a2 bt103.2.2.1 (a1_7 != 0) l0_0 l0_1 l0_2 a1_0 a1_1 a1_2 a1_3 a1_4 a1_5 l1_6 a1_7)) else ((prog_blank.f a1_3 a1_4 a1_5 l1_6).bind fun t111 => (if t111 = true then (if bt103.2.2.2.1 = true then (prog_names_step.j0 k a2 bt103.2.2.1 false l0_0 l0_1 l0_2 a1_0 a1_1 a1_2 a1_3 a1_4 a1_5 l1_6 a1_7) else (prog_names_step.j0 k a2 bt103.2.2.1 (a1_7 != 0) l0_0 l0_1 l0_2 a1_0 a1_1 a1_2 a1_3 a1_4 a1_5 l1_6 a1_7)) else (prog_names_step.j0 k a2 bt103.2.2.1 true l0_0 l0_1 l0_2 a1_0 a1_1 a1_2 a1_3 a1_4 a1_5 l1_6 a1_7)))) else (prog_names_step.j0 k a2 bt103.2.2.1 true l0_0 l0_1 l0_2 a1_0 a1_1 a1_2 a1_3 a1_4 a1_5 l1_6 a1_7))) else (prog_names_step.j0 k a2 bt103.2.2.1 true l0_0 l0_1 l0_2 a1_0 a1_1 a1_2 a1_3 a1_4 a1_5 l1_6 a1_7))) else (prog_names_step.j0 k a2 bt103.2.2.1 true l0_0 l0_1 l0_2 a1_0 a1_1 a1_2 a1_3 a1_4 a1_5 l1_6 a1_7))) = some r := h
 clear h
 replace H := Option.bind_eq_some_iff.mp H
 obtain ⟨⟨t103, t104, t105, t106, t107⟩, A40, H⟩ := H
 replace H : (if t107 = true then (if t103 = true then (if t104 = true then (if t105 = true then (if t106 = true then (prog_names_step.j0 k a2 t105 false l0_0 l0_1 l0_2 a1_0 a1_1 a1_2 a1_3 a1_4 a1_5 l1_6 a1_7) else (prog_names_step.j0 k a2 t105 (a1_7 != 0) l0_0 l0_1 l0_2 a1_0 a1_1 a1_2 a1_3 a1_4 a1_5 l1_6 a1_7)) else ((prog_blank.f a1_3 a1_4 a1_5 l1_6).bind fun t108 => (if t108 = true then (if t106 = true then (prog_names_step.j0 k a2 t105 false l0_0 l0_1 l0_2 a1_0 a1_1 a1_2 a1_3 a1_4 a1_5 l1_6 a1_7) else (prog_names_step.j0 k a2 t105 (a1_7 != 0) l0_0 l0_1 l0_2 a1_0 a1_1 a1_2 a1_3 a1_4 a1_5 l1_6 a1_7)) else (prog_names_step.j0 k a2 t105 true l0_0 l0_1 l0_2 a1_0 a1_1 a1_2 a1_3 a1_4 a1_5 l1_6 a1_7)))) else (if a1_2.toList = ([] : List UInt8) then (if t105 = true then (if t106 = true then (prog_names_step.j0 k a2 t105 false l0_0 l0_1 l0_2 a1_0 a1_1 a1_2 a1_3 a1_4 a1_5 l1_6 a1_7) else (prog_names_step.j0 k a2 t105 (a1_7 != 0) l0_0 l0_1 l0_2 a1_0 a1_1 a1_2 a1_3 a1_4 a1_5 l1_6 a1_7)) else ((prog_blank.f a1_3 a1_4 a1_5 l1_6).bind fun t109 => (if t109 = true then (if t106 = true then (prog_names_step.j0 k a2 t105 false l0_0 l0_1 l0_2 a1_0 a1_1 a1_2 a1_3 a1_4 a1_5 l1_6 a1_7) else (prog_names_step.j0 k a2 t105 (a1_7 != 0) l0_0 l0_1 l0_2 a1_0 a1_1 a1_2 a1_3 a1_4 a1_5 l1_6 a1_7)) else (prog_names_step.j0 k a2 t105 true l0_0 l0_1 l0_2 a1_0 a1_1 a1_2 a1_3 a1_4 a1_5 l1_6 a1_7)))) else (prog_names_step.j0 k a2 t105 true l0_0 l0_1 l0_2 a1_0 a1_1 a1_2 a1_3 a1_4 a1_5 l1_6 a1_7))) else (if a1_1.toList = ([] : List UInt8) then (if t104 = true then (if t105 = true then (if t106 = true then (prog_names_step.j0 k a2 t105 false l0_0 l0_1 l0_2 a1_0 a1_1 a1_2 a1_3 a1_4 a1_5 l1_6 a1_7) else (prog_names_step.j0 k a2 t105 (a1_7 != 0) l0_0 l0_1 l0_2 a1_0 a1_1 a1_2 a1_3 a1_4 a1_5 l1_6 a1_7)) else ((prog_blank.f a1_3 a1_4 a1_5 l1_6).bind fun t110 => (if t110 = true then (if t106 = true then (prog_names_step.j0 k a2 t105 false l0_0 l0_1 l0_2 a1_0 a1_1 a1_2 a1_3 a1_4 a1_5 l1_6 a1_7) else (prog_names_step.j0 k a2 t105 (a1_7 != 0) l0_0 l0_1 l0_2 a1_0 a1_1 a1_2 a1_3 a1_4 a1_5 l1_6 a1_7)) else (prog_names_step.j0 k a2 t105 true l0_0 l0_1 l0_2 a1_0 a1_1 a1_2 a1_3 a1_4 a1_5 l1_6 a1_7)))) else (if a1_2.toList = ([] : List UInt8) then (if t105 = true then (if t106 = true then (prog_names_step.j0 k a2 t105 false l0_0 l0_1 l0_2 a1_0 a1_1 a1_2 a1_3 a1_4 a1_5 l1_6 a1_7) else (prog_names_step.j0 k a2 t105 (a1_7 != 0) l0_0 l0_1 l0_2 a1_0 a1_1 a1_2 a1_3 a1_4 a1_5 l1_6 a1_7)) else ((prog_blank.f a1_3 a1_4 a1_5 l1_6).bind fun t111 => (if t111 = true then (if t106 = true then (prog_names_step.j0 k a2 t105 false l0_0 l0_1 l0_2 a1_0 a1_1 a1_2 a1_3 a1_4 a1_5 l1_6 a1_7) else (prog_names_step.j0 k a2 t105 (a1_7 != 0) l0_0 l0_1 l0_2 a1_0 a1_1 a1_2 a1_3 a1_4 a1_5 l1_6 a1_7)) else (prog_names_step.j0 k a2 t105 true l0_0 l0_1 l0_2 a1_0 a1_1 a1_2 a1_3 a1_4 a1_5 l1_6 a1_7)))) else (prog_names_step.j0 k a2 t105 true l0_0 l0_1 l0_2 a1_0 a1_1 a1_2 a1_3 a1_4 a1_5 l1_6 a1_7))) else (prog_names_step.j0 k a2 t105 true l0_0 l0_1 l0_2 a1_0 a1_1 a1_2 a1_3 a1_4 a1_5 l1_6 a1_7))) else (prog_names_step.j0 k a2 t105 true l0_0 l0_1 l0_2 a1_0 a1_1 a1_2 a1_3 a1_4 a1_5 l1_6 a1_7)) = some r := H
 have A4 := Aside0.mk A40
 clear A40
 have HC5 := Aside0.mk H
 clear H
 go_enter Tryd.func73, Tryd.ntmps73
 go_upto_region 2 with (first | ((with_reducible refine gate_dst (N := 3) rfl ?_); refine box_event ?hg (N := 3) ?hd (cs := #[.slice A0_0 l0_0.length c0_0, .slice A0_1 l0_1.length c0_1, .slice A0_2 l0_2.length c0_2]) (t := 121) ?hr ?_; (case hd => rfl); (case hg => rfl); (case hr => first | (go_simp; done) | (go_simp; rfl)); intro gb101 hg w6 hbox hb; have n0_ := Aside0.mk (below_step (by repeat (first | (with_reducible first | exact HB.out | apply below_alloc | apply pw_below_drewN | apply below_drew1) | exact HB.out)) hb); have n1_ := Aside0.mk (hbox); have n2_ := Aside0.mk ((by rw [hg]; exact (below_size (by repeat (first | (with_reducible first | exact HB.out | apply below_alloc | apply pw_below_drewN | apply below_drew1) | exact HB.out))) : w.heap.size ≤ gb101)); have n3_ := Aside0.mk ((by rw [hg]; exact (below_size (by repeat (first | (with_reducible first | exact HB.out | apply below_alloc | apply pw_below_drewN | apply below_drew1) | exact HB.out))) : w.heap.size ≤ gb101)); clear HB; have HB := n0_; have BK101 := n1_; have GW101 := n2_; have GE101 := n3_; clear n0_ n1_ n2_ n3_; clear hb hbox hg) | ((with_reducible refine gate_dst (N := 4) rfl ?_); refine box_event ?hg (N := 4) ?hd (cs := #[.int .i64 a1_0, .string a1_1, .string a1_2, .int .i64 a1_3, .int .i64 a1_4, .string a1_5, .slice A1_6 l1_6.length c1_6, .int .i64 a1_7]) (t := 67) ?hr ?_; (case hd => rfl); (case hg => rfl); (case hr => first | (go_simp; done) | (go_simp; rfl)); intro gb102 hg w7 hbox hb; have n0_ := Aside0.mk (blk_below (g := gb101) (o := .cells #[.slice A0_0 l0_0.length c0_0, .slice A0_1 l0_1.length c0_1, .slice A0_2 l0_2.length c0_2] 121 (0, 0)) (by (with_reducible repeat (first | refine blk_drewN ?_ _ | refine blk_drew ?_ | refine blk_alloc ?_ _)); exact BK101.out) hb); have n1_ := Aside0.mk (below_step (by repeat (first | (with_reducible first | exact HB.out | apply below_alloc | apply pw_below_drewN | apply below_drew1 | refine below_set ?_ GE101.out) | exact HB.out)) hb); have n2_ := Aside0.mk (hbox); have n3_ := Aside0.mk ((by rw [hg]; exact (below_size (by repeat (first | (with_reducible first | exact HB.out | apply below_alloc | apply pw_below_drewN | apply below_drew1 | refine below_set ?_ GE101.out) | exact HB.out))) : w.heap.size ≤ gb102)); have n4_ := Aside0.mk ((by rw [hg]; exact (below_size (by repeat (first | (with_reducible first | exact HB.out | apply below_alloc | apply pw_below_drewN | apply below_drew1 | refine below_set ?_ GE101.out) | exact HB.out))) : w.heap.size ≤ gb102)); have n5_ := Aside0.mk ((by rw [hg]; exact Nat.ne_of_lt (blk_lt (g := gb101) (o := .cells #[.slice A0_0 l0_0.length c0_0, .slice A0_1 l0_1.length c0_1, .slice A0_2 l0_2.length c0_2] 121 (0, 0)) (by (with_reducible repeat (first | refine blk_drewN ?_ _ | refine blk_drew ?_ | refine blk_alloc ?_ _)); exact BK101.out)) : gb101 ≠ gb102)); have n6_ := Aside0.mk ((by rw [hg]; exact Nat.ne_of_gt (blk_lt (g := gb101) (o := .cells #[.slice A0_0 l0_0.length c0_0, .slice A0_1 l0_1.length c0_1, .slice A0_2 l0_2.length c0_2] 121 (0, 0)) (by (with_reducible repeat (first | refine blk_drewN ?_ _ | refine blk_drew ?_ | refine blk_alloc ?_ _)); exact BK101.out)) : gb102 ≠ gb101)); clear BK101; clear HB; have BK101 := n0_; have HB := n1_; have BK102 := n2_; have GW102 := n3_; have GE102 := n4_; have NB101_102 := n5_; have NB102_101 := n6_; clear n0_ n1_ n2_ n3_ n4_ n5_ n6_; clear hb hbox hg; have hnb8 := NB102_101.out; have hnc8 := NB101_102.out; have hcz9_0 : w7.cell? ⟨gb102, 0, none⟩ = some (.int .i64 a1_0) := (blk_cell BK102.out 0).trans rfl; have hcz9_1 : w7.cell? ⟨gb102, 1, none⟩ = some (.string a1_1) := (blk_cell BK102.out 1).trans rfl; have hcz9_2 : w7.cell? ⟨gb102, 2, none⟩ = some (.string a1_2) := (blk_cell BK102.out 2).trans rfl; have hcz9_3 : w7.cell? ⟨gb102, 3, none⟩ = some (.int .i64 a1_3) := (blk_cell BK102.out 3).trans rfl; have hcz9_4 : w7.cell? ⟨gb102, 4, none⟩ = some (.int .i64 a1_4) := (blk_cell BK102.out 4).trans rfl; have hcz9_5 : w7.cell? ⟨gb102, 5, none⟩ = some (.string a1_5) := (blk_cell BK102.out 5).trans rfl; have hcz9_6 : w7.cell? ⟨gb102, 6, none⟩ = some (.slice A1_6 l1_6.length c1_6) := (blk_cell BK102.out 6).trans rfl; have hcz9_7 : w7.cell? ⟨gb102, 7, none⟩ = some (.int .i64 a1_7) := (blk_cell BK102.out 7).trans rfl; have hfz9_0 := blk_frozen BK102.out 0; have hfz9_1 := blk_frozen BK102.out 1; have hfz9_2 := blk_frozen BK102.out 2; have hfz9_3 := blk_frozen BK102.out 3; have hfz9_4 := blk_frozen BK102.out 4; have hfz9_5 := blk_frozen BK102.out 5; have hfz9_6 := blk_frozen BK102.out 6; have hfz9_7 := blk_frozen BK102.out 7) | ((with_reducible refine gate_callee (f := 101) rfl ?_); refine goesL_ (some 19) rfl rfl Tryd.func101 (by kernel_rfl) rfl #[.int .i64 a1_0] rfl (by (try simp only [List.map_toArray, List.map_cons, List.map_nil]); first | done | rfl | (simp only [List.length_drop, List.length_take]; rfl)) ?_; (with_reducible refine (prog_uses.calls k a1_0 t103 t104 t105 t106 t107 _ A4.out).mono ?_); rintro e w' ⟨rfl, ⟨nd, rfl⟩⟩; refine ⟨_, rfl, ?_⟩))
 (try simp only [Act.put, List.setIfInBounds_toArray, List.set_cons_zero, List.set_cons_succ])
 go_cut [63] (fun v63 wc => ∃ (kq : Nat) (x63_4 : Bool), v63 = .bool x63_4 ∧ Aside0 (prog_names_step.j0 kq a2 t105 x63_4 l0_0 l0_1 l0_2 a1_0 a1_1 a1_2 a1_3 a1_4 a1_5 l1_6 a1_7 = some r) ∧ Aside0 (kq ≤ k) ∧ Aside0 (wc.heap[gb101]? = some (.cells #[(.slice A0_0 l0_0.length c0_0), (.slice A0_1 l0_1.length c0_1), (.slice A0_2 l0_2.length c0_2)] 121 (0, 0))) ∧ Aside0 (wc.heap[gb102]? = some (.cells #[.int .i64 a1_0, .string a1_1, .string a1_2, .int .i64 a1_3, .int .i64 a1_4, .string a1_5, (.slice A1_6 l1_6.length c1_6), .int .i64 a1_7] 67 (0, 0))) ∧ Aside0 (Below w.heap.size w wc))
 case first =>
  have H := HC5.out
  clear HC5
  by_cases c10 : t107 = true
  ·subst c10
   have H1 : (if t103 = true then (if t104 = true then (if t105 = true then (if t106 = true then (prog_names_step.j0 k a2 t105 false l0_0 l0_1 l0_2 a1_0 a1_1 a1_2 a1_3 a1_4 a1_5 l1_6 a1_7) else (prog_names_step.j0 k a2 t105 (a1_7 != 0) l0_0 l0_1 l0_2 a1_0 a1_1 a1_2 a1_3 a1_4 a1_5 l1_6 a1_7)) else ((prog_blank.f a1_3 a1_4 a1_5 l1_6).bind fun t108 => (if t108 = true then (if t106 = true then (prog_names_step.j0 k a2 t105 false l0_0 l0_1 l0_2 a1_0 a1_1 a1_2 a1_3 a1_4 a1_5 l1_6 a1_7) else (prog_names_step.j0 k a2 t105 (a1_7 != 0) l0_0 l0_1 l0_2 a1_0 a1_1 a1_2 a1_3 a1_4 a1_5 l1_6 a1_7)) else (prog_names_step.j0 k a2 t105 true l0_0 l0_1 l0_2 a1_0 a1_1 a1_2 a1_3 a1_4 a1_5 l1_6 a1_7)))) else (if a1_2.toList = ([] : List UInt8) then (if t105 = true then (if t106 = true then (prog_names_step.j0 k a2 t105 false l0_0 l0_1 l0_2 a1_0 a1_1 a1_2 a1_3 a1_4 a1_5 l1_6 a1_7) else (prog_names_step.j0 k a2 t105 (a1_7 != 0) l0_0 l0_1 l0_2 a1_0 a1_1 a1_2 a1_3 a1_4 a1_5 l1_6 a1_7)) else ((prog_blank.f a1_3 a1_4 a1_5 l1_6).bind fun t109 => (if t109 = true then (if t106 = true then (prog_names_step.j0 k a2 t105 false l0_0 l0_1 l0_2 a1_0 a1_1 a1_2 a1_3 a1_4 a1_5 l1_6 a1_7) else (prog_names_step.j0 k a2 t105 (a1_7 != 0) l0_0 l0_1 l0_2 a1_0 a1_1 a1_2 a1_3 a1_4 a1_5 l1_6 a1_7)) else (prog_names_step.j0 k a2 t105 true l0_0 l0_1 l0_2 a1_0 a1_1 a1_2 a1_3 a1_4 a1_5 l1_6 a1_7)))) else (prog_names_step.j0 k a2 t105 true l0_0 l0_1 l0_2 a1_0 a1_1 a1_2 a1_3 a1_4 a1_5 l1_6 a1_7))) else (if a1_1.toList = ([] : List UInt8) then (if t104 = true then (if t105 = true then (if t106 = true then (prog_names_step.j0 k a2 t105 false l0_0 l0_1 l0_2 a1_0 a1_1 a1_2 a1_3 a1_4 a1_5 l1_6 a1_7) else (prog_names_step.j0 k a2 t105 (a1_7 != 0) l0_0 l0_1 l0_2 a1_0 a1_1 a1_2 a1_3 a1_4 a1_5 l1_6 a1_7)) else ((prog_blank.f a1_3 a1_4 a1_5 l1_6).bind fun t110 => (if t110 = true then (if t106 = true then (prog_names_step.j0 k a2 t105 false l0_0 l0_1 l0_2 a1_0 a1_1 a1_2 a1_3 a1_4 a1_5 l1_6 a1_7) else (prog_names_step.j0 k a2 t105 (a1_7 != 0) l0_0 l0_1 l0_2 a1_0 a1_1 a1_2 a1_3 a1_4 a1_5 l1_6 a1_7)) else (prog_names_step.j0 k a2 t105 true l0_0 l0_1 l0_2 a1_0 a1_1 a1_2 a1_3 a1_4 a1_5 l1_6 a1_7)))) else (if a1_2.toList = ([] : List UInt8) then (if t105 = true then (if t106 = true then (prog_names_step.j0 k a2 t105 false l0_0 l0_1 l0_2 a1_0 a1_1 a1_2 a1_3 a1_4 a1_5 l1_6 a1_7) else (prog_names_step.j0 k a2 t105 (a1_7 != 0) l0_0 l0_1 l0_2 a1_0 a1_1 a1_2 a1_3 a1_4 a1_5 l1_6 a1_7)) else ((prog_blank.f a1_3 a1_4 a1_5 l1_6).bind fun t111 => (if t111 = true then (if t106 = true then (prog_names_step.j0 k a2 t105 false l0_0 l0_1 l0_2 a1_0 a1_1 a1_2 a1_3 a1_4 a1_5 l1_6 a1_7) else (prog_names_step.j0 k a2 t105 (a1_7 != 0) l0_0 l0_1 l0_2 a1_0 a1_1 a1_2 a1_3 a1_4 a1_5 l1_6 a1_7)) else (prog_names_step.j0 k a2 t105 true l0_0 l0_1 l0_2 a1_0 a1_1 a1_2 a1_3 a1_4 a1_5 l1_6 a1_7)))) else (prog_names_step.j0 k a2 t105 true l0_0 l0_1 l0_2 a1_0 a1_1 a1_2 a1_3 a1_4 a1_5 l1_6 a1_7))) else (prog_names_step.j0 k a2 t105 true l0_0 l0_1 l0_2 a1_0 a1_1 a1_2 a1_3 a1_4 a1_5 l1_6 a1_7))) = some r := by rw [if_pos rfl] at H; exact H
   clear H
   have H := H1
   clear H1
   by_cases c11 : t103 = true
   ·subst c11
    have H1 : (if t104 = true then (if t105 = true then (if t106 = true then (prog_names_step.j0 k a2 t105 false l0_0 l0_1 l0_2 a1_0 a1_1 a1_2 a1_3 a1_4 a1_5 l1_6 a1_7) else (prog_names_step.j0 k a2 t105 (a1_7 != 0) l0_0 l0_1 l0_2 a1_0 a1_1 a1_2 a1_3 a1_4 a1_5 l1_6 a1_7)) else ((prog_blank.f a1_3 a1_4 a1_5 l1_6).bind fun t108 => (if t108 = true then (if t106 = true then (prog_names_step.j0 k a2 t105 false l0_0 l0_1 l0_2 a1_0 a1_1 a1_2 a1_3 a1_4 a1_5 l1_6 a1_7) else (prog_names_step.j0 k a2 t105 (a1_7 != 0) l0_0 l0_1 l0_2 a1_0 a1_1 a1_2 a1_3 a1_4 a1_5 l1_6 a1_7)) else (prog_names_step.j0 k a2 t105 true l0_0 l0_1 l0_2 a1_0 a1_1 a1_2 a1_3 a1_4 a1_5 l1_6 a1_7)))) else (if a1_2.toList = ([] : List UInt8) then (if t105 = true then (if t106 = true then (prog_names_step.j0 k a2 t105 false l0_0 l0_1 l0_2 a1_0 a1_1 a1_2 a1_3 a1_4 a1_5 l1_6 a1_7) else (prog_names_step.j0 k a2 t105 (a1_7 != 0) l0_0 l0_1 l0_2 a1_0 a1_1 a1_2 a1_3 a1_4 a1_5 l1_6 a1_7)) else ((prog_blank.f a1_3 a1_4 a1_5 l1_6).bind fun t109 => (if t109 = true then (if t106 = true then (prog_names_step.j0 k a2 t105 false l0_0 l0_1 l0_2 a1_0 a1_1 a1_2 a1_3 a1_4 a1_5 l1_6 a1_7) else (prog_names_step.j0 k a2 t105 (a1_7 != 0) l0_0 l0_1 l0_2 a1_0 a1_1 a1_2 a1_3 a1_4 a1_5 l1_6 a1_7)) else (prog_names_step.j0 k a2 t105 true l0_0 l0_1 l0_2 a1_0 a1_1 a1_2 a1_3 a1_4 a1_5 l1_6 a1_7)))) else (prog_names_step.j0 k a2 t105 true l0_0 l0_1 l0_2 a1_0 a1_1 a1_2 a1_3 a1_4 a1_5 l1_6 a1_7))) = some r := by rw [if_pos rfl] at H; exact H
    clear H
    have H := H1
    clear H1
    by_cases c12 : t104 = true
    ·subst c12
     have H1 : (if t105 = true then (if t106 = true then (prog_names_step.j0 k a2 t105 false l0_0 l0_1 l0_2 a1_0 a1_1 a1_2 a1_3 a1_4 a1_5 l1_6 a1_7) else (prog_names_step.j0 k a2 t105 (a1_7 != 0) l0_0 l0_1 l0_2 a1_0 a1_1 a1_2 a1_3 a1_4 a1_5 l1_6 a1_7)) else ((prog_blank.f a1_3 a1_4 a1_5 l1_6).bind fun t108 => (if t108 = true then (if t106 = true then (prog_names_step.j0 k a2 t105 false l0_0 l0_1 l0_2 a1_0 a1_1 a1_2 a1_3 a1_4 a1_5 l1_6 a1_7) else (prog_names_step.j0 k a2 t105 (a1_7 != 0) l0_0 l0_1 l0_2 a1_0 a1_1 a1_2 a1_3 a1_4 a1_5 l1_6 a1_7)) else (prog_names_step.j0 k a2 t105 true l0_0 l0_1 l0_2 a1_0 a1_1 a1_2 a1_3 a1_4 a1_5 l1_6 a1_7)))) = some r := by rw [if_pos rfl] at H; exact H
     clear H
     have H := H1
     clear H1
     by_cases c13 : t105 = true
     ·subst c13
      have H1 : (if t106 = true then (prog_names_step.j0 k a2 true false l0_0 l0_1 l0_2 a1_0 a1_1 a1_2 a1_3 a1_4 a1_5 l1_6 a1_7) else (prog_names_step.j0 k a2 true (a1_7 != 0) l0_0 l0_1 l0_2 a1_0 a1_1 a1_2 a1_3 a1_4 a1_5 l1_6 a1_7)) = some r := by rw [if_pos rfl] at H; exact H
      clear H
      have H := H1
      clear H1
      by_cases c14 : t106 = true
      ·subst c14
       have H1 : (prog_names_step.j0 k a2 true false l0_0 l0_1 l0_2 a1_0 a1_1 a1_2 a1_3 a1_4 a1_5 l1_6 a1_7) = some r := by rw [if_pos rfl] at H; exact H
       clear H
       have H := H1
       clear H1
       have H' := Aside0.mk H
       clear H
       as_aux_lemma =>
        go_wp2
        go_meet
        case rel => exact ⟨_, (false), (by first | rfl | (simp; done) | (simp [*]; done)), H', ⟨by first | omega | exact Nat.le_refl _⟩, ⟨by (with_reducible repeat (first | refine blk_drewN ?_ _ | refine blk_drew ?_ | refine blk_alloc ?_ _)); exact BK101.out⟩, ⟨by (with_reducible repeat (first | refine blk_drewN ?_ _ | refine blk_drew ?_ | refine blk_alloc ?_ _)); exact BK102.out⟩, ⟨by repeat (first | (with_reducible first | exact HB.out | apply below_alloc | apply pw_below_drewN | apply below_drew1 | refine below_set ?_ GE101.out | refine below_set ?_ GE102.out) | exact HB.out)⟩⟩
      ·replace c14 := Bool.eq_false_iff.mpr c14
       subst c14
       have H1 : (prog_names_step.j0 k a2 true (a1_7 != 0) l0_0 l0_1 l0_2 a1_0 a1_1 a1_2 a1_3 a1_4 a1_5 l1_6 a1_7) = some r := by rw [if_neg (show ¬ (false = true) by decide)] at H; exact H
       clear H
       have H := H1
       clear H1
       have H' := Aside0.mk H
       clear H
       have hnb15 := NB102_101.out
       have hnc15 := NB101_102.out
       have hcz16_0 : w7.cell? ⟨gb102, 0, none⟩ = some (.int .i64 a1_0) := (blk_cell BK102.out 0).trans rfl
       have hcz16_1 : w7.cell? ⟨gb102, 1, none⟩ = some (.string a1_1) := (blk_cell BK102.out 1).trans rfl
       have hcz16_2 : w7.cell? ⟨gb102, 2, none⟩ = some (.string a1_2) := (blk_cell BK102.out 2).trans rfl
       have hcz16_3 : w7.cell? ⟨gb102, 3, none⟩ = some (.int .i64 a1_3) := (blk_cell BK102.out 3).trans rfl
       have hcz16_4 : w7.cell? ⟨gb102, 4, none⟩ = some (.int .i64 a1_4) := (blk_cell BK102.out 4).trans rfl
       have hcz16_5 : w7.cell? ⟨gb102, 5, none⟩ = some (.string a1_5) := (blk_cell BK102.out 5).trans rfl
       have hcz16_6 : w7.cell? ⟨gb102, 6, none⟩ = some (.slice A1_6 l1_6.length c1_6) := (blk_cell BK102.out 6).trans rfl
       have hcz16_7 : w7.cell? ⟨gb102, 7, none⟩ = some (.int .i64 a1_7) := (blk_cell BK102.out 7).trans rfl
       have hfz16_0 := blk_frozen BK102.out 0
       have hfz16_1 := blk_frozen BK102.out 1
       have hfz16_2 := blk_frozen BK102.out 2
       have hfz16_3 := blk_frozen BK102.out 3
       have hfz16_4 := blk_frozen BK102.out 4
       have hfz16_5 := blk_frozen BK102.out 5
       have hfz16_6 := blk_frozen BK102.out 6
       have hfz16_7 := blk_frozen BK102.out 7
       as_aux_lemma =>
        go_wp2
        go_meet
        case rel => exact ⟨_, ((a1_7 != 0)), (by first | rfl | (simp; done) | (simp [*]; done)), H', ⟨by first | omega | exact Nat.le_refl _⟩, ⟨by (with_reducible repeat (first | refine blk_drewN ?_ _ | refine blk_drew ?_ | refine blk_alloc ?_ _)); exact BK101.out⟩, ⟨by (with_reducible repeat (first | refine blk_drewN ?_ _ | refine blk_drew ?_ | refine blk_alloc ?_ _)); exact BK102.out⟩, ⟨by repeat (first | (with_reducible first | exact HB.out | apply below_alloc | apply pw_below_drewN | apply below_drew1 | refine below_set ?_ GE101.out | refine below_set ?_ GE102.out) | exact HB.out)⟩⟩
     ·replace c13 := Bool.eq_false_iff.mpr c13
      subst c13
      have H1 : ((prog_blank.f a1_3 a1_4 a1_5 l1_6).bind fun t108 => (if t108 = true then (if t106 = true then (prog_names_step.j0 k a2 false false l0_0 l0_1 l0_2 a1_0 a1_1 a1_2 a1_3 a1_4 a1_5 l1_6 a1_7) else (prog_names_step.j0 k a2 false (a1_7 != 0) l0_0 l0_1 l0_2 a1_0 a1_1 a1_2 a1_3 a1_4 a1_5 l1_6 a1_7)) else (prog_names_step.j0 k a2 false true l0_0 l0_1 l0_2 a1_0 a1_1 a1_2 a1_3 a1_4 a1_5 l1_6 a1_7))) = some r := by rw [if_neg (show ¬ (false = true) by decide)] at H; exact H
      clear H
      have H := H1
      clear H1
      replace H := Option.bind_eq_some_iff.mp H
      obtain ⟨t108, A170, H⟩ := H
      replace H : (if t108 = true then (if t106 = true then (prog_names_step.j0 k a2 false false l0_0 l0_1 l0_2 a1_0 a1_1 a1_2 a1_3 a1_4 a1_5 l1_6 a1_7) else (prog_names_step.j0 k a2 false (a1_7 != 0) l0_0 l0_1 l0_2 a1_0 a1_1 a1_2 a1_3 a1_4 a1_5 l1_6 a1_7)) else (prog_names_step.j0 k a2 false true l0_0 l0_1 l0_2 a1_0 a1_1 a1_2 a1_3 a1_4 a1_5 l1_6 a1_7)) = some r := H
      have A17 := Aside0.mk A170
      clear A170
      by_cases c18 : t108 = true
      ·subst c18
       have H1 : (if t106 = true then (prog_names_step.j0 k a2 false false l0_0 l0_1 l0_2 a1_0 a1_1 a1_2 a1_3 a1_4 a1_5 l1_6 a1_7) else (prog_names_step.j0 k a2 false (a1_7 != 0) l0_0 l0_1 l0_2 a1_0 a1_1 a1_2 a1_3 a1_4 a1_5 l1_6 a1_7)) = some r := by rw [if_pos rfl] at H; exact H
       clear H
       have H := H1
       clear H1
       by_cases c19 : t106 = true
       ·subst c19
        have H1 : (prog_names_step.j0 k a2 false false l0_0 l0_1 l0_2 a1_0 a1_1 a1_2 a1_3 a1_4 a1_5 l1_6 a1_7) = some r := by rw [if_pos rfl] at H; exact H
        clear H
        have H := H1
        clear H1
        have H' := Aside0.mk H
        clear H
        have hnb20 := NB102_101.out
        have hnc20 := NB101_102.out
        have hcz21_0 : w7.cell? ⟨gb102, 0, none⟩ = some (.int .i64 a1_0) := (blk_cell BK102.out 0).trans rfl
        have hcz21_1 : w7.cell? ⟨gb102, 1, none⟩ = some (.string a1_1) := (blk_cell BK102.out 1).trans rfl
        have hcz21_2 : w7.cell? ⟨gb102, 2, none⟩ = some (.string a1_2) := (blk_cell BK102.out 2).trans rfl
        have hcz21_3 : w7.cell? ⟨gb102, 3, none⟩ = some (.int .i64 a1_3) := (blk_cell BK102.out 3).trans rfl
        have hcz21_4 : w7.cell? ⟨gb102, 4, none⟩ = some (.int .i64 a1_4) := (blk_cell BK102.out 4).trans rfl
        have hcz21_5 : w7.cell? ⟨gb102, 5, none⟩ = some (.string a1_5) := (blk_cell BK102.out 5).trans rfl
        have hcz21_6 : w7.cell? ⟨gb102, 6, none⟩ = some (.slice A1_6 l1_6.length c1_6) := (blk_cell BK102.out 6).trans rfl
        have hcz21_7 : w7.cell? ⟨gb102, 7, none⟩ = some (.int .i64 a1_7) := (blk_cell BK102.out 7).trans rfl
        have hfz21_0 := blk_frozen BK102.out 0
        have hfz21_1 := blk_frozen BK102.out 1
        have hfz21_2 := blk_frozen BK102.out 2
        have hfz21_3 := blk_frozen BK102.out 3
        have hfz21_4 := blk_frozen BK102.out 4
        have hfz21_5 := blk_frozen BK102.out 5
        have hfz21_6 := blk_frozen BK102.out 6
        have hfz21_7 := blk_frozen BK102.out 7
        as_aux_lemma =>
         go_wp2_with (first | (go_at_call 104; (with_reducible refine (prog_blank.calls a1_3 a1_4 a1_5 _ _ l1_6 true _ ?side1 ?side2 A17.out).mono ?_); (case side1 => repeat (first | exact (Kd.C_below HR1_6.out HB.out) | (with_reducible refine Kd.C_alloc ?_ _) | (with_reducible refine Kd.C_drewN ?_ _) | (with_reducible refine Kd.C_drew ?_))); (case side2 => exact HC1_6.out); rintro e w22 ⟨rfl, hb⟩; have n0_ := Aside0.mk (blk_below (g := gb101) (o := .cells #[.slice A0_0 l0_0.length c0_0, .slice A0_1 l0_1.length c0_1, .slice A0_2 l0_2.length c0_2] 121 (0, 0)) (by (with_reducible repeat (first | refine blk_drewN ?_ _ | refine blk_drew ?_ | refine blk_alloc ?_ _)); exact BK101.out) hb); have n1_ := Aside0.mk (blk_below (g := gb102) (o := .cells #[.int .i64 a1_0, .string a1_1, .string a1_2, .int .i64 a1_3, .int .i64 a1_4, .string a1_5, .slice A1_6 l1_6.length c1_6, .int .i64 a1_7] 67 (0, 0)) (by (with_reducible repeat (first | refine blk_drewN ?_ _ | refine blk_drew ?_ | refine blk_alloc ?_ _)); exact BK102.out) hb); have n2_ := Aside0.mk (below_step (by repeat (first | (with_reducible first | exact HB.out | apply below_alloc | apply pw_below_drewN | apply below_drew1 | refine below_set ?_ GE101.out | refine below_set ?_ GE102.out) | exact HB.out)) hb); clear BK101; clear BK102; clear HB; have BK101 := n0_; have BK102 := n1_; have HB := n2_; clear n0_ n1_ n2_; (try clear hb); (try clear hb2); (try clear hk); (try clear hi)))
         go_meet
         case rel => exact ⟨_, (false), (by first | rfl | (simp; done) | (simp [*]; done)), H', ⟨by first | omega | exact Nat.le_refl _⟩, ⟨by (with_reducible repeat (first | refine blk_drewN ?_ _ | refine blk_drew ?_ | refine blk_alloc ?_ _)); exact BK101.out⟩, ⟨by (with_reducible repeat (first | refine blk_drewN ?_ _ | refine blk_drew ?_ | refine blk_alloc ?_ _)); exact BK102.out⟩, ⟨by repeat (first | (with_reducible first | exact HB.out | apply below_alloc | apply pw_below_drewN | apply below_drew1 | refine below_set ?_ GE101.out | refine below_set ?_ GE102.out) | exact HB.out)⟩⟩
       ·replace c19 := Bool.eq_false_iff.mpr c19
        subst c19
        have H1 : (prog_names_step.j0 k a2 false (a1_7 != 0) l0_0 l0_1 l0_2 a1_0 a1_1 a1_2 a1_3 a1_4 a1_5 l1_6 a1_7) = some r := by rw [if_neg (show ¬ (false = true) by decide)] at H; exact H
        clear H
        have H := H1
        clear H1
        have H' := Aside0.mk H
        clear H
        have hnb23 := NB102_101.out
        have hnc23 := NB101_102.out
        have hcz24_0 : w7.cell? ⟨gb102, 0, none⟩ = some (.int .i64 a1_0) := (blk_cell BK102.out 0).trans rfl
        have hcz24_1 : w7.cell? ⟨gb102, 1, none⟩ = some (.string a1_1) := (blk_cell BK102.out 1).trans rfl
        have hcz24_2 : w7.cell? ⟨gb102, 2, none⟩ = some (.string a1_2) := (blk_cell BK102.out 2).trans rfl
        have hcz24_3 : w7.cell? ⟨gb102, 3, none⟩ = some (.int .i64 a1_3) := (blk_cell BK102.out 3).trans rfl
        have hcz24_4 : w7.cell? ⟨gb102, 4, none⟩ = some (.int .i64 a1_4) := (blk_cell BK102.out 4).trans rfl
        have hcz24_5 : w7.cell? ⟨gb102, 5, none⟩ = some (.string a1_5) := (blk_cell BK102.out 5).trans rfl
        have hcz24_6 : w7.cell? ⟨gb102, 6, none⟩ = some (.slice A1_6 l1_6.length c1_6) := (blk_cell BK102.out 6).trans rfl
        have hcz24_7 : w7.cell? ⟨gb102, 7, none⟩ = some (.int .i64 a1_7) := (blk_cell BK102.out 7).trans rfl
        have hfz24_0 := blk_frozen BK102.out 0
        have hfz24_1 := blk_frozen BK102.out 1
        have hfz24_2 := blk_frozen BK102.out 2
        have hfz24_3 := blk_frozen BK102.out 3
        have hfz24_4 := blk_frozen BK102.out 4
        have hfz24_5 := blk_frozen BK102.out 5
        have hfz24_6 := blk_frozen BK102.out 6
        have hfz24_7 := blk_frozen BK102.out 7
        as_aux_lemma =>
         go_wp2_with (first | (go_at_call 104; (with_reducible refine (prog_blank.calls a1_3 a1_4 a1_5 _ _ l1_6 true _ ?side1 ?side2 A17.out).mono ?_); (case side1 => repeat (first | exact (Kd.C_below HR1_6.out HB.out) | (with_reducible refine Kd.C_alloc ?_ _) | (with_reducible refine Kd.C_drewN ?_ _) | (with_reducible refine Kd.C_drew ?_))); (case side2 => exact HC1_6.out); rintro e w25 ⟨rfl, hb⟩; have n0_ := Aside0.mk (blk_below (g := gb101) (o := .cells #[.slice A0_0 l0_0.length c0_0, .slice A0_1 l0_1.length c0_1, .slice A0_2 l0_2.length c0_2] 121 (0, 0)) (by (with_reducible repeat (first | refine blk_drewN ?_ _ | refine blk_drew ?_ | refine blk_alloc ?_ _)); exact BK101.out) hb); have n1_ := Aside0.mk (blk_below (g := gb102) (o := .cells #[.int .i64 a1_0, .string a1_1, .string a1_2, .int .i64 a1_3, .int .i64 a1_4, .string a1_5, .slice A1_6 l1_6.length c1_6, .int .i64 a1_7] 67 (0, 0)) (by (with_reducible repeat (first | refine blk_drewN ?_ _ | refine blk_drew ?_ | refine blk_alloc ?_ _)); exact BK102.out) hb); have n2_ := Aside0.mk (below_step (by repeat (first | (with_reducible first | exact HB.out | apply below_alloc | apply pw_below_drewN | apply below_drew1 | refine below_set ?_ GE101.out | refine below_set ?_ GE102.out) | exact HB.out)) hb); clear BK101; clear BK102; clear HB; have BK101 := n0_; have BK102 := n1_; have HB := n2_; clear n0_ n1_ n2_; (try clear hb); (try clear hb2); (try clear hk); (try clear hi); have hcz26_0 : w25.cell? ⟨gb102, 0, none⟩ = some (.int .i64 a1_0) := (blk_cell BK102.out 0).trans rfl; have hcz26_1 : w25.cell? ⟨gb102, 1, none⟩ = some (.string a1_1) := (blk_cell BK102.out 1).trans rfl; have hcz26_2 : w25.cell? ⟨gb102, 2, none⟩ = some (.string a1_2) := (blk_cell BK102.out 2).trans rfl; have hcz26_3 : w25.cell? ⟨gb102, 3, none⟩ = some (.int .i64 a1_3) := (blk_cell BK102.out 3).trans rfl; have hcz26_4 : w25.cell? ⟨gb102, 4, none⟩ = some (.int .i64 a1_4) := (blk_cell BK102.out 4).trans rfl; have hcz26_5 : w25.cell? ⟨gb102, 5, none⟩ = some (.string a1_5) := (blk_cell BK102.out 5).trans rfl; have hcz26_6 : w25.cell? ⟨gb102, 6, none⟩ = some (.slice A1_6 l1_6.length c1_6) := (blk_cell BK102.out 6).trans rfl; have hcz26_7 : w25.cell? ⟨gb102, 7, none⟩ = some (.int .i64 a1_7) := (blk_cell BK102.out 7).trans rfl; have hfz26_0 := blk_frozen BK102.out 0; have hfz26_1 := blk_frozen BK102.out 1; have hfz26_2 := blk_frozen BK102.out 2; have hfz26_3 := blk_frozen BK102.out 3; have hfz26_4 := blk_frozen BK102.out 4; have hfz26_5 := blk_frozen BK102.out 5; have hfz26_6 := blk_frozen BK102.out 6; have hfz26_7 := blk_frozen BK102.out 7))
         go_meet
         case rel => exact ⟨_, ((a1_7 != 0)), (by first | rfl | (simp; done) | (simp [*]; done)), H', ⟨by first | omega | exact Nat.le_refl _⟩, ⟨by (with_reducible repeat (first | refine blk_drewN ?_ _ | refine blk_drew ?_ | refine blk_alloc ?_ _)); exact BK101.out⟩, ⟨by (with_reducible repeat (first | refine blk_drewN ?_ _ | refine blk_drew ?_ | refine blk_alloc ?_ _)); exact BK102.out⟩, ⟨by repeat (first | (with_reducible first | exact HB.out | apply below_alloc | apply pw_below_drewN | apply below_drew1 | refine below_set ?_ GE101.out | refine below_set ?_ GE102.out) | exact HB.out)⟩⟩
      ·replace c18 := Bool.eq_false_iff.mpr c18
       subst c18
       have H1 : (prog_names_step.j0 k a2 false true l0_0 l0_1 l0_2 a1_0 a1_1 a1_2 a1_3 a1_4 a1_5 l1_6 a1_7) = some r := by rw [if_neg (show ¬ (false = true) by decide)] at H; exact H
       clear H
       have H := H1
       clear H1
       have H' := Aside0.mk H
       clear H
       have hnb27 := NB102_101.out
       have hnc27 := NB101_102.out
       have hcz28_0 : w7.cell? ⟨gb102, 0, none⟩ = some (.int .i64 a1_0) := (blk_cell BK102.out 0).trans rfl
       have hcz28_1 : w7.cell? ⟨gb102, 1, none⟩ = some (.string a1_1) := (blk_cell BK102.out 1).trans rfl
       have hcz28_2 : w7.cell? ⟨gb102, 2, none⟩ = some (.string a1_2) := (blk_cell BK102.out 2).trans rfl
       have hcz28_3 : w7.cell? ⟨gb102, 3, none⟩ = some (.int .i64 a1_3) := (blk_cell BK102.out 3).trans rfl
       have hcz28_4 : w7.cell? ⟨gb102, 4, none⟩ = some (.int .i64 a1_4) := (blk_cell BK102.out 4).trans rfl
       have hcz28_5 : w7.cell? ⟨gb102, 5, none⟩ = some (.string a1_5) := (blk_cell BK102.out 5).trans rfl
       have hcz28_6 : w7.cell? ⟨gb102, 6, none⟩ = some (.slice A1_6 l1_6.length c1_6) := (blk_cell BK102.out 6).trans rfl
       have hcz28_7 : w7.cell? ⟨gb102, 7, none⟩ = some (.int .i64 a1_7) := (blk_cell BK102.out 7).trans rfl
       have hfz28_0 := blk_frozen BK102.out 0
       have hfz28_1 := blk_frozen BK102.out 1
       have hfz28_2 := blk_frozen BK102.out 2
       have hfz28_3 := blk_frozen BK102.out 3
       have hfz28_4 := blk_frozen BK102.out 4
       have hfz28_5 := blk_frozen BK102.out 5
       have hfz28_6 := blk_frozen BK102.out 6
       have hfz28_7 := blk_frozen BK102.out 7
       as_aux_lemma =>
        go_wp2_with (first | (go_at_call 104; (with_reducible refine (prog_blank.calls a1_3 a1_4 a1_5 _ _ l1_6 false _ ?side1 ?side2 A17.out).mono ?_); (case side1 => repeat (first | exact (Kd.C_below HR1_6.out HB.out) | (with_reducible refine Kd.C_alloc ?_ _) | (with_reducible refine Kd.C_drewN ?_ _) | (with_reducible refine Kd.C_drew ?_))); (case side2 => exact HC1_6.out); rintro e w29 ⟨rfl, hb⟩; have n0_ := Aside0.mk (blk_below (g := gb101) (o := .cells #[.slice A0_0 l0_0.length c0_0, .slice A0_1 l0_1.length c0_1, .slice A0_2 l0_2.length c0_2] 121 (0, 0)) (by (with_reducible repeat (first | refine blk_drewN ?_ _ | refine blk_drew ?_ | refine blk_alloc ?_ _)); exact BK101.out) hb); have n1_ := Aside0.mk (blk_below (g := gb102) (o := .cells #[.int .i64 a1_0, .string a1_1, .string a1_2, .int .i64 a1_3, .int .i64 a1_4, .string a1_5, .slice A1_6 l1_6.length c1_6, .int .i64 a1_7] 67 (0, 0)) (by (with_reducible repeat (first | refine blk_drewN ?_ _ | refine blk_drew ?_ | refine blk_alloc ?_ _)); exact BK102.out) hb); have n2_ := Aside0.mk (below_step (by repeat (first | (with_reducible first | exact HB.out | apply below_alloc | apply pw_below_drewN | apply below_drew1 | refine below_set ?_ GE101.out | refine below_set ?_ GE102.out) | exact HB.out)) hb); clear BK101; clear BK102; clear HB; have BK101 := n0_; have BK102 := n1_; have HB := n2_; clear n0_ n1_ n2_; (try clear hb); (try clear hb2); (try clear hk); (try clear hi)))
        go_meet
        case rel => exact ⟨_, (true), (by first | rfl | (simp; done) | (simp [*]; done)), H', ⟨by first | omega | exact Nat.le_refl _⟩, ⟨by (with_reducible repeat (first | refine blk_drewN ?_ _ | refine blk_drew ?_ | refine blk_alloc ?_ _)); exact BK101.out⟩, ⟨by (with_reducible repeat (first | refine blk_drewN ?_ _ | refine blk_drew ?_ | refine blk_alloc ?_ _)); exact BK102.out⟩, ⟨by repeat (first | (with_reducible first | exact HB.out | apply below_alloc | apply pw_below_drewN | apply below_drew1 | refine below_set ?_ GE101.out | refine below_set ?_ GE102.out) | exact HB.out)⟩⟩
    ·replace c12 := Bool.eq_false_iff.mpr c12
     subst c12
     have H1 : (if a1_2.toList = ([] : List UInt8) then (if t105 = true then (if t106 = true then (prog_names_step.j0 k a2 t105 false l0_0 l0_1 l0_2 a1_0 a1_1 a1_2 a1_3 a1_4 a1_5 l1_6 a1_7) else (prog_names_step.j0 k a2 t105 (a1_7 != 0) l0_0 l0_1 l0_2 a1_0 a1_1 a1_2 a1_3 a1_4 a1_5 l1_6 a1_7)) else ((prog_blank.f a1_3 a1_4 a1_5 l1_6).bind fun t109 => (if t109 = true then (if t106 = true then (prog_names_step.j0 k a2 t105 false l0_0 l0_1 l0_2 a1_0 a1_1 a1_2 a1_3 a1_4 a1_5 l1_6 a1_7) else (prog_names_step.j0 k a2 t105 (a1_7 != 0) l0_0 l0_1 l0_2 a1_0 a1_1 a1_2 a1_3 a1_4 a1_5 l1_6 a1_7)) else (prog_names_step.j0 k a2 t105 true l0_0 l0_1 l0_2 a1_0 a1_1 a1_2 a1_3 a1_4 a1_5 l1_6 a1_7)))) else (prog_names_step.j0 k a2 t105 true l0_0 l0_1 l0_2 a1_0 a1_1 a1_2 a1_3 a1_4 a1_5 l1_6 a1_7)) = some r := by rw [if_neg (show ¬ (false = true) by decide)] at H; exact H
     clear H
     have H := H1
     clear H1
     by_cases c30 : a1_2.toList = ([] : List UInt8)
     ·rw [if_pos c30] at H
      have c30b0 : (a1_2.toList == ([] : List UInt8)) = true := beq_iff_eq.mpr c30
      have c30b1 : (a1_2.toList != ([] : List UInt8)) = false := bne_eq_false_iff_eq.mpr c30
      clear c30
      (first | rw [c30b0] | (simp only [i64_w, i32_w]; rw [c30b0]) | skip)
      by_cases c31 : t105 = true
      ·subst c31
       have H1 : (if t106 = true then (prog_names_step.j0 k a2 true false l0_0 l0_1 l0_2 a1_0 a1_1 a1_2 a1_3 a1_4 a1_5 l1_6 a1_7) else (prog_names_step.j0 k a2 true (a1_7 != 0) l0_0 l0_1 l0_2 a1_0 a1_1 a1_2 a1_3 a1_4 a1_5 l1_6 a1_7)) = some r := by rw [if_pos rfl] at H; exact H
       clear H
       have H := H1
       clear H1
       by_cases c32 : t106 = true
       ·subst c32
        have H1 : (prog_names_step.j0 k a2 true false l0_0 l0_1 l0_2 a1_0 a1_1 a1_2 a1_3 a1_4 a1_5 l1_6 a1_7) = some r := by rw [if_pos rfl] at H; exact H
        clear H
        have H := H1
        clear H1
        have H' := Aside0.mk H
        clear H
        have hnb33 := NB102_101.out
        have hnc33 := NB101_102.out
        have hcz34_0 : w7.cell? ⟨gb102, 0, none⟩ = some (.int .i64 a1_0) := (blk_cell BK102.out 0).trans rfl
        have hcz34_1 : w7.cell? ⟨gb102, 1, none⟩ = some (.string a1_1) := (blk_cell BK102.out 1).trans rfl
        have hcz34_2 : w7.cell? ⟨gb102, 2, none⟩ = some (.string a1_2) := (blk_cell BK102.out 2).trans rfl
        have hcz34_3 : w7.cell? ⟨gb102, 3, none⟩ = some (.int .i64 a1_3) := (blk_cell BK102.out 3).trans rfl
        have hcz34_4 : w7.cell? ⟨gb102, 4, none⟩ = some (.int .i64 a1_4) := (blk_cell BK102.out 4).trans rfl
        have hcz34_5 : w7.cell? ⟨gb102, 5, none⟩ = some (.string a1_5) := (blk_cell BK102.out 5).trans rfl
        have hcz34_6 : w7.cell? ⟨gb102, 6, none⟩ = some (.slice A1_6 l1_6.length c1_6) := (blk_cell BK102.out 6).trans rfl
        have hcz34_7 : w7.cell? ⟨gb102, 7, none⟩ = some (.int .i64 a1_7) := (blk_cell BK102.out 7).trans rfl
        have hfz34_0 := blk_frozen BK102.out 0
        have hfz34_1 := blk_frozen BK102.out 1
        have hfz34_2 := blk_frozen BK102.out 2
        have hfz34_3 := blk_frozen BK102.out 3
        have hfz34_4 := blk_frozen BK102.out 4
        have hfz34_5 := blk_frozen BK102.out 5
        have hfz34_6 := blk_frozen BK102.out 6
        have hfz34_7 := blk_frozen BK102.out 7
        as_aux_lemma =>
         go_wp2
         go_meet
         case rel => exact ⟨_, (false), (by first | rfl | (simp; done) | (simp [*]; done)), H', ⟨by first | omega | exact Nat.le_refl _⟩, ⟨by (with_reducible repeat (first | refine blk_drewN ?_ _ | refine blk_drew ?_ | refine blk_alloc ?_ _)); exact BK101.out⟩, ⟨by (with_reducible repeat (first | refine blk_drewN ?_ _ | refine blk_drew ?_ | refine blk_alloc ?_ _)); exact BK102.out⟩, ⟨by repeat (first | (with_reducible first | exact HB.out | apply below_alloc | apply pw_below_drewN | apply below_drew1 | refine below_set ?_ GE101.out | refine below_set ?_ GE102.out) | exact HB.out)⟩⟩
       ·replace c32 := Bool.eq_false_iff.mpr c32
        subst c32
        have H1 : (prog_names_step.j0 k a2 true (a1_7 != 0) l0_0 l0_1 l0_2 a1_0 a1_1 a1_2 a1_3 a1_4 a1_5 l1_6 a1_7) = some r := by rw [if_neg (show ¬ (false = true) by decide)] at H; exact H
        clear H
        have H := H1
        clear H1
        have H' := Aside0.mk H
        clear H
        have hnb35 := NB102_101.out
        have hnc35 := NB101_102.out
        have hcz36_0 : w7.cell? ⟨gb102, 0, none⟩ = some (.int .i64 a1_0) := (blk_cell BK102.out 0).trans rfl
        have hcz36_1 : w7.cell? ⟨gb102, 1, none⟩ = some (.string a1_1) := (blk_cell BK102.out 1).trans rfl
        have hcz36_2 : w7.cell? ⟨gb102, 2, none⟩ = some (.string a1_2) := (blk_cell BK102.out 2).trans rfl
        have hcz36_3 : w7.cell? ⟨gb102, 3, none⟩ = some (.int .i64 a1_3) := (blk_cell BK102.out 3).trans rfl
        have hcz36_4 : w7.cell? ⟨gb102, 4, none⟩ = some (.int .i64 a1_4) := (blk_cell BK102.out 4).trans rfl
        have hcz36_5 : w7.cell? ⟨gb102, 5, none⟩ = some (.string a1_5) := (blk_cell BK102.out 5).trans rfl
        have hcz36_6 : w7.cell? ⟨gb102, 6, none⟩ = some (.slice A1_6 l1_6.length c1_6) := (blk_cell BK102.out 6).trans rfl
        have hcz36_7 : w7.cell? ⟨gb102, 7, none⟩ = some (.int .i64 a1_7) := (blk_cell BK102.out 7).trans rfl
        have hfz36_0 := blk_frozen BK102.out 0
        have hfz36_1 := blk_frozen BK102.out 1
        have hfz36_2 := blk_frozen BK102.out 2
        have hfz36_3 := blk_frozen BK102.out 3
        have hfz36_4 := blk_frozen BK102.out 4
        have hfz36_5 := blk_frozen BK102.out 5
        have hfz36_6 := blk_frozen BK102.out 6
        have hfz36_7 := blk_frozen BK102.out 7
        as_aux_lemma =>
         go_wp2
         go_meet
         case rel => exact ⟨_, ((a1_7 != 0)), (by first | rfl | (simp; done) | (simp [*]; done)), H', ⟨by first | omega | exact Nat.le_refl _⟩, ⟨by (with_reducible repeat (first | refine blk_drewN ?_ _ | refine blk_drew ?_ | refine blk_alloc ?_ _)); exact BK101.out⟩, ⟨by (with_reducible repeat (first | refine blk_drewN ?_ _ | refine blk_drew ?_ | refine blk_alloc ?_ _)); exact BK102.out⟩, ⟨by repeat (first | (with_reducible first | exact HB.out | apply below_alloc | apply pw_below_drewN | apply below_drew1 | refine below_set ?_ GE101.out | refine below_set ?_ GE102.out) | exact HB.out)⟩⟩
      ·replace c31 := Bool.eq_false_iff.mpr c31
       subst c31
       have H1 : ((prog_blank.f a1_3 a1_4 a1_5 l1_6).bind fun t109 => (if t109 = true then (if t106 = true then (prog_names_step.j0 k a2 false false l0_0 l0_1 l0_2 a1_0 a1_1 a1_2 a1_3 a1_4 a1_5 l1_6 a1_7) else (prog_names_step.j0 k a2 false (a1_7 != 0) l0_0 l0_1 l0_2 a1_0 a1_1 a1_2 a1_3 a1_4 a1_5 l1_6 a1_7)) else (prog_names_step.j0 k a2 false true l0_0 l0_1 l0_2 a1_0 a1_1 a1_2 a1_3 a1_4 a1_5 l1_6 a1_7))) = some r := by rw [if_neg (show ¬ (false = true) by decide)] at H; exact H
       clear H
       have H := H1
       clear H1
       replace H := Option.bind_eq_some_iff.mp H
       obtain ⟨t109, A370, H⟩ := H
       replace H : (if t109 = true then (if t106 = true then (prog_names_step.j0 k a2 false false l0_0 l0_1 l0_2 a1_0 a1_1 a1_2 a1_3 a1_4 a1_5 l1_6 a1_7) else (prog_names_step.j0 k a2 false (a1_7 != 0) l0_0 l0_1 l0_2 a1_0 a1_1 a1_2 a1_3 a1_4 a1_5 l1_6 a1_7)) else (prog_names_step.j0 k a2 false true l0_0 l0_1 l0_2 a1_0 a1_1 a1_2 a1_3 a1_4 a1_5 l1_6 a1_7)) = some r := H
       have A37 := Aside0.mk A370
       clear A370
       by_cases c38 : t109 = true
       ·subst c38
        have H1 : (if t106 = true then (prog_names_step.j0 k a2 false false l0_0 l0_1 l0_2 a1_0 a1_1 a1_2 a1_3 a1_4 a1_5 l1_6 a1_7) else (prog_names_step.j0 k a2 false (a1_7 != 0) l0_0 l0_1 l0_2 a1_0 a1_1 a1_2 a1_3 a1_4 a1_5 l1_6 a1_7)) = some r := by rw [if_pos rfl] at H; exact H
        clear H
        have H := H1
        clear H1
        by_cases c39 : t106 = true
        ·subst c39
         have H1 : (prog_names_step.j0 k a2 false false l0_0 l0_1 l0_2 a1_0 a1_1 a1_2 a1_3 a1_4 a1_5 l1_6 a1_7) = some r := by rw [if_pos rfl] at H; exact H
         clear H
         have H := H1
         clear H1
         have H' := Aside0.mk H
         clear H
         have hnb40 := NB102_101.out
         have hnc40 := NB101_102.out
         have hcz41_0 : w7.cell? ⟨gb102, 0, none⟩ = some (.int .i64 a1_0) := (blk_cell BK102.out 0).trans rfl
         have hcz41_1 : w7.cell? ⟨gb102, 1, none⟩ = some (.string a1_1) := (blk_cell BK102.out 1).trans rfl
         have hcz41_2 : w7.cell? ⟨gb102, 2, none⟩ = some (.string a1_2) := (blk_cell BK102.out 2).trans rfl
         have hcz41_3 : w7.cell? ⟨gb102, 3, none⟩ = some (.int .i64 a1_3) := (blk_cell BK102.out 3).trans rfl
         have hcz41_4 : w7.cell? ⟨gb102, 4, none⟩ = some (.int .i64 a1_4) := (blk_cell BK102.out 4).trans rfl
         have hcz41_5 : w7.cell? ⟨gb102, 5, none⟩ = some (.string a1_5) := (blk_cell BK102.out 5).trans rfl
         have hcz41_6 : w7.cell? ⟨gb102, 6, none⟩ = some (.slice A1_6 l1_6.length c1_6) := (blk_cell BK102.out 6).trans rfl
         have hcz41_7 : w7.cell? ⟨gb102, 7, none⟩ = some (.int .i64 a1_7) := (blk_cell BK102.out 7).trans rfl
         have hfz41_0 := blk_frozen BK102.out 0
         have hfz41_1 := blk_frozen BK102.out 1
         have hfz41_2 := blk_frozen BK102.out 2
         have hfz41_3 := blk_frozen BK102.out 3
         have hfz41_4 := blk_frozen BK102.out 4
         have hfz41_5 := blk_frozen BK102.out 5
         have hfz41_6 := blk_frozen BK102.out 6
         have hfz41_7 := blk_frozen BK102.out 7
         as_aux_lemma =>
          go_wp2_with (first | (go_at_call 104; (with_reducible refine (prog_blank.calls a1_3 a1_4 a1_5 _ _ l1_6 true _ ?side1 ?side2 A37.out).mono ?_); (case side1 => repeat (first | exact (Kd.C_below HR1_6.out HB.out) | (with_reducible refine Kd.C_alloc ?_ _) | (with_reducible refine Kd.C_drewN ?_ _) | (with_reducible refine Kd.C_drew ?_))); (case side2 => exact HC1_6.out); rintro e w42 ⟨rfl, hb⟩; have n0_ := Aside0.mk (blk_below (g := gb101) (o := .cells #[.slice A0_0 l0_0.length c0_0, .slice A0_1 l0_1.length c0_1, .slice A0_2 l0_2.length c0_2] 121 (0, 0)) (by (with_reducible repeat (first | refine blk_drewN ?_ _ | refine blk_drew ?_ | refine blk_alloc ?_ _)); exact BK101.out) hb); have n1_ := Aside0.mk (blk_below (g := gb102) (o := .cells #[.int .i64 a1_0, .string a1_1, .string a1_2, .int .i64 a1_3, .int .i64 a1_4, .string a1_5, .slice A1_6 l1_6.length c1_6, .int .i64 a1_7] 67 (0, 0)) (by (with_reducible repeat (first | refine blk_drewN ?_ _ | refine blk_drew ?_ | refine blk_alloc ?_ _)); exact BK102.out) hb); have n2_ := Aside0.mk (below_step (by repeat (first | (with_reducible first | exact HB.out | apply below_alloc | apply pw_below_drewN | apply below_drew1 | refine below_set ?_ GE101.out | refine below_set ?_ GE102.out) | exact HB.out)) hb); clear BK101; clear BK102; clear HB; have BK101 := n0_; have BK102 := n1_; have HB := n2_; clear n0_ n1_ n2_; (try clear hb); (try clear hb2); (try clear hk); (try clear hi)))
          go_meet
          case rel => exact ⟨_, (false), (by first | rfl | (simp; done) | (simp [*]; done)), H', ⟨by first | omega | exact Nat.le_refl _⟩, ⟨by (with_reducible repeat (first | refine blk_drewN ?_ _ | refine blk_drew ?_ | refine blk_alloc ?_ _)); exact BK101.out⟩, ⟨by (with_reducible repeat (first | refine blk_drewN ?_ _ | refine blk_drew ?_ | refine blk_alloc ?_ _)); exact BK102.out⟩, ⟨by repeat (first | (with_reducible first | exact HB.out | apply below_alloc | apply pw_below_drewN | apply below_drew1 | refine below_set ?_ GE101.out | refine below_set ?_ GE102.out) | exact HB.out)⟩⟩
        ·replace c39 := Bool.eq_false_iff.mpr c39
         subst c39
         have H1 : (prog_names_step.j0 k a2 false (a1_7 != 0) l0_0 l0_1 l0_2 a1_0 a1_1 a1_2 a1_3 a1_4 a1_5 l1_6 a1_7) = some r := by rw [if_neg (show ¬ (false = true) by decide)] at H; exact H
         clear H
         have H := H1
         clear H1
         have H' := Aside0.mk H
         clear H
         have hnb43 := NB102_101.out
         have hnc43 := NB101_102.out
         have hcz44_0 : w7.cell? ⟨gb102, 0, none⟩ = some (.int .i64 a1_0) := (blk_cell BK102.out 0).trans rfl
         have hcz44_1 : w7.cell? ⟨gb102, 1, none⟩ = some (.string a1_1) := (blk_cell BK102.out 1).trans rfl
         have hcz44_2 : w7.cell? ⟨gb102, 2, none⟩ = some (.string a1_2) := (blk_cell BK102.out 2).trans rfl
         have hcz44_3 : w7.cell? ⟨gb102, 3, none⟩ = some (.int .i64 a1_3) := (blk_cell BK102.out 3).trans rfl
         have hcz44_4 : w7.cell? ⟨gb102, 4, none⟩ = some (.int .i64 a1_4) := (blk_cell BK102.out 4).trans rfl
         have hcz44_5 : w7.cell? ⟨gb102, 5, none⟩ = some (.string a1_5) := (blk_cell BK102.out 5).trans rfl
         have hcz44_6 : w7.cell? ⟨gb102, 6, none⟩ = some (.slice A1_6 l1_6.length c1_6) := (blk_cell BK102.out 6).trans rfl
         have hcz44_7 : w7.cell? ⟨gb102, 7, none⟩ = some (.int .i64 a1_7) := (blk_cell BK102.out 7).trans rfl
         have hfz44_0 := blk_frozen BK102.out 0
         have hfz44_1 := blk_frozen BK102.out 1
         have hfz44_2 := blk_frozen BK102.out 2
         have hfz44_3 := blk_frozen BK102.out 3
         have hfz44_4 := blk_frozen BK102.out 4
         have hfz44_5 := blk_frozen BK102.out 5
         have hfz44_6 := blk_frozen BK102.out 6
         have hfz44_7 := blk_frozen BK102.out 7
         as_aux_lemma =>
          go_wp2_with (first | (go_at_call 104; (with_reducible refine (prog_blank.calls a1_3 a1_4 a1_5 _ _ l1_6 true _ ?side1 ?side2 A37.out).mono ?_); (case side1 => repeat (first | exact (Kd.C_below HR1_6.out HB.out) | (with_reducible refine Kd.C_alloc ?_ _) | (with_reducible refine Kd.C_drewN ?_ _) | (with_reducible refine Kd.C_drew ?_))); (case side2 => exact HC1_6.out); rintro e w45 ⟨rfl, hb⟩; have n0_ := Aside0.mk (blk_below (g := gb101) (o := .cells #[.slice A0_0 l0_0.length c0_0, .slice A0_1 l0_1.length c0_1, .slice A0_2 l0_2.length c0_2] 121 (0, 0)) (by (with_reducible repeat (first | refine blk_drewN ?_ _ | refine blk_drew ?_ | refine blk_alloc ?_ _)); exact BK101.out) hb); have n1_ := Aside0.mk (blk_below (g := gb102) (o := .cells #[.int .i64 a1_0, .string a1_1, .string a1_2, .int .i64 a1_3, .int .i64 a1_4, .string a1_5, .slice A1_6 l1_6.length c1_6, .int .i64 a1_7] 67 (0, 0)) (by (with_reducible repeat (first | refine blk_drewN ?_ _ | refine blk_drew ?_ | refine blk_alloc ?_ _)); exact BK102.out) hb); have n2_ := Aside0.mk (below_step (by repeat (first | (with_reducible first | exact HB.out | apply below_alloc | apply pw_below_drewN | apply below_drew1 | refine below_set ?_ GE101.out | refine below_set ?_ GE102.out) | exact HB.out)) hb); clear BK101; clear BK102; clear HB; have BK101 := n0_; have BK102 := n1_; have HB := n2_; clear n0_ n1_ n2_; (try clear hb); (try clear hb2); (try clear hk); (try clear hi); have hcz46_0 : w45.cell? ⟨gb102, 0, none⟩ = some (.int .i64 a1_0) := (blk_cell BK102.out 0).trans rfl; have hcz46_1 : w45.cell? ⟨gb102, 1, none⟩ = some (.string a1_1) := (blk_cell BK102.out 1).trans rfl; have hcz46_2 : w45.cell? ⟨gb102, 2, none⟩ = some (.string a1_2) := (blk_cell BK102.out 2).trans rfl; have hcz46_3 : w45.cell? ⟨gb102, 3, none⟩ = some (.int .i64 a1_3) := (blk_cell BK102.out 3).trans rfl; have hcz46_4 : w45.cell? ⟨gb102, 4, none⟩ = some (.int .i64 a1_4) := (blk_cell BK102.out 4).trans rfl; have hcz46_5 : w45.cell? ⟨gb102, 5, none⟩ = some (.string a1_5) := (blk_cell BK102.out 5).trans rfl; have hcz46_6 : w45.cell? ⟨gb102, 6, none⟩ = some (.slice A1_6 l1_6.length c1_6) := (blk_cell BK102.out 6).trans rfl; have hcz46_7 : w45.cell? ⟨gb102, 7, none⟩ = some (.int .i64 a1_7) := (blk_cell BK102.out 7).trans rfl; have hfz46_0 := blk_frozen BK102.out 0; have hfz46_1 := blk_frozen BK102.out 1; have hfz46_2 := blk_frozen BK102.out 2; have hfz46_3 := blk_frozen BK102.out 3; have hfz46_4 := blk_frozen BK102.out 4; have hfz46_5 := blk_frozen BK102.out 5; have hfz46_6 := blk_frozen BK102.out 6; have hfz46_7 := blk_frozen BK102.out 7))
          go_meet
          case rel => exact ⟨_, ((a1_7 != 0)), (by first | rfl | (simp; done) | (simp [*]; done)), H', ⟨by first | omega | exact Nat.le_refl _⟩, ⟨by (with_reducible repeat (first | refine blk_drewN ?_ _ | refine blk_drew ?_ | refine blk_alloc ?_ _)); exact BK101.out⟩, ⟨by (with_reducible repeat (first | refine blk_drewN ?_ _ | refine blk_drew ?_ | refine blk_alloc ?_ _)); exact BK102.out⟩, ⟨by repeat (first | (with_reducible first | exact HB.out | apply below_alloc | apply pw_below_drewN | apply below_drew1 | refine below_set ?_ GE101.out | refine below_set ?_ GE102.out) | exact HB.out)⟩⟩
       ·replace c38 := Bool.eq_false_iff.mpr c38
        subst c38
        have H1 : (prog_names_step.j0 k a2 false true l0_0 l0_1 l0_2 a1_0 a1_1 a1_2 a1_3 a1_4 a1_5 l1_6 a1_7) = some r := by rw [if_neg (show ¬ (false = true) by decide)] at H; exact H
        clear H
        have H := H1
        clear H1
        have H' := Aside0.mk H
        clear H
        have hnb47 := NB102_101.out
        have hnc47 := NB101_102.out
        have hcz48_0 : w7.cell? ⟨gb102, 0, none⟩ = some (.int .i64 a1_0) := (blk_cell BK102.out 0).trans rfl
        have hcz48_1 : w7.cell? ⟨gb102, 1, none⟩ = some (.string a1_1) := (blk_cell BK102.out 1).trans rfl
        have hcz48_2 : w7.cell? ⟨gb102, 2, none⟩ = some (.string a1_2) := (blk_cell BK102.out 2).trans rfl
        have hcz48_3 : w7.cell? ⟨gb102, 3, none⟩ = some (.int .i64 a1_3) := (blk_cell BK102.out 3).trans rfl
        have hcz48_4 : w7.cell? ⟨gb102, 4, none⟩ = some (.int .i64 a1_4) := (blk_cell BK102.out 4).trans rfl
        have hcz48_5 : w7.cell? ⟨gb102, 5, none⟩ = some (.string a1_5) := (blk_cell BK102.out 5).trans rfl
        have hcz48_6 : w7.cell? ⟨gb102, 6, none⟩ = some (.slice A1_6 l1_6.length c1_6) := (blk_cell BK102.out 6).trans rfl
        have hcz48_7 : w7.cell? ⟨gb102, 7, none⟩ = some (.int .i64 a1_7) := (blk_cell BK102.out 7).trans rfl
        have hfz48_0 := blk_frozen BK102.out 0
        have hfz48_1 := blk_frozen BK102.out 1
        have hfz48_2 := blk_frozen BK102.out 2
        have hfz48_3 := blk_frozen BK102.out 3
        have hfz48_4 := blk_frozen BK102.out 4
        have hfz48_5 := blk_frozen BK102.out 5
        have hfz48_6 := blk_frozen BK102.out 6
        have hfz48_7 := blk_frozen BK102.out 7
        as_aux_lemma =>
         go_wp2_with (first | (go_at_call 104; (with_reducible refine (prog_blank.calls a1_3 a1_4 a1_5 _ _ l1_6 false _ ?side1 ?side2 A37.out).mono ?_); (case side1 => repeat (first | exact (Kd.C_below HR1_6.out HB.out) | (with_reducible refine Kd.C_alloc ?_ _) | (with_reducible refine Kd.C_drewN ?_ _) | (with_reducible refine Kd.C_drew ?_))); (case side2 => exact HC1_6.out); rintro e w49 ⟨rfl, hb⟩; have n0_ := Aside0.mk (blk_below (g := gb101) (o := .cells #[.slice A0_0 l0_0.length c0_0, .slice A0_1 l0_1.length c0_1, .slice A0_2 l0_2.length c0_2] 121 (0, 0)) (by (with_reducible repeat (first | refine blk_drewN ?_ _ | refine blk_drew ?_ | refine blk_alloc ?_ _)); exact BK101.out) hb); have n1_ := Aside0.mk (blk_below (g := gb102) (o := .cells #[.int .i64 a1_0, .string a1_1, .string a1_2, .int .i64 a1_3, .int .i64 a1_4, .string a1_5, .slice A1_6 l1_6.length c1_6, .int .i64 a1_7] 67 (0, 0)) (by (with_reducible repeat (first | refine blk_drewN ?_ _ | refine blk_drew ?_ | refine blk_alloc ?_ _)); exact BK102.out) hb); have n2_ := Aside0.mk (below_step (by repeat (first | (with_reducible first | exact HB.out | apply below_alloc | apply pw_below_drewN | apply below_drew1 | refine below_set ?_ GE101.out | refine below_set ?_ GE102.out) | exact HB.out)) hb); clear BK101; clear BK102; clear HB; have BK101 := n0_; have BK102 := n1_; have HB := n2_; clear n0_ n1_ n2_; (try clear hb); (try clear hb2); (try clear hk); (try clear hi)))
         go_meet
         case rel => exact ⟨_, (true), (by first | rfl | (simp; done) | (simp [*]; done)), H', ⟨by first | omega | exact Nat.le_refl _⟩, ⟨by (with_reducible repeat (first | refine blk_drewN ?_ _ | refine blk_drew ?_ | refine blk_alloc ?_ _)); exact BK101.out⟩, ⟨by (with_reducible repeat (first | refine blk_drewN ?_ _ | refine blk_drew ?_ | refine blk_alloc ?_ _)); exact BK102.out⟩, ⟨by repeat (first | (with_reducible first | exact HB.out | apply below_alloc | apply pw_below_drewN | apply below_drew1 | refine below_set ?_ GE101.out | refine below_set ?_ GE102.out) | exact HB.out)⟩⟩
     ·rw [if_neg c30] at H
      have c30b0 : (a1_2.toList == ([] : List UInt8)) = false := beq_eq_false_iff_ne.mpr c30
      have c30b1 : (a1_2.toList != ([] : List UInt8)) = true := bne_iff_ne.mpr c30
      (first | rw [c30b0] | (simp only [i64_w, i32_w]; rw [c30b0]) | skip)
      have H' := Aside0.mk H
      clear H
      have hnb50 := NB102_101.out
      have hnc50 := NB101_102.out
      have hcz51_0 : w7.cell? ⟨gb102, 0, none⟩ = some (.int .i64 a1_0) := (blk_cell BK102.out 0).trans rfl
      have hcz51_1 : w7.cell? ⟨gb102, 1, none⟩ = some (.string a1_1) := (blk_cell BK102.out 1).trans rfl
      have hcz51_2 : w7.cell? ⟨gb102, 2, none⟩ = some (.string a1_2) := (blk_cell BK102.out 2).trans rfl
      have hcz51_3 : w7.cell? ⟨gb102, 3, none⟩ = some (.int .i64 a1_3) := (blk_cell BK102.out 3).trans rfl
      have hcz51_4 : w7.cell? ⟨gb102, 4, none⟩ = some (.int .i64 a1_4) := (blk_cell BK102.out 4).trans rfl
      have hcz51_5 : w7.cell? ⟨gb102, 5, none⟩ = some (.string a1_5) := (blk_cell BK102.out 5).trans rfl
      have hcz51_6 : w7.cell? ⟨gb102, 6, none⟩ = some (.slice A1_6 l1_6.length c1_6) := (blk_cell BK102.out 6).trans rfl
      have hcz51_7 : w7.cell? ⟨gb102, 7, none⟩ = some (.int .i64 a1_7) := (blk_cell BK102.out 7).trans rfl
      have hfz51_0 := blk_frozen BK102.out 0
      have hfz51_1 := blk_frozen BK102.out 1
      have hfz51_2 := blk_frozen BK102.out 2
      have hfz51_3 := blk_frozen BK102.out 3
      have hfz51_4 := blk_frozen BK102.out 4
      have hfz51_5 := blk_frozen BK102.out 5
      have hfz51_6 := blk_frozen BK102.out 6
      have hfz51_7 := blk_frozen BK102.out 7
      as_aux_lemma =>
       go_wp2
       go_meet
       case rel => exact ⟨_, (true), (by first | rfl | (simp; done) | (simp [*]; done)), H', ⟨by first | omega | exact Nat.le_refl _⟩, ⟨by (with_reducible repeat (first | refine blk_drewN ?_ _ | refine blk_drew ?_ | refine blk_alloc ?_ _)); exact BK101.out⟩, ⟨by (with_reducible repeat (first | refine blk_drewN ?_ _ | refine blk_drew ?_ | refine blk_alloc ?_ _)); exact BK102.out⟩, ⟨by repeat (first | (with_reducible first | exact HB.out | apply below_alloc | apply pw_below_drewN | apply below_drew1 | refine below_set ?_ GE101.out | refine below_set ?_ GE102.out) | exact HB.out)⟩⟩
   ·replace c11 := Bool.eq_false_iff.mpr c11
    subst c11
    have H1 : (if a1_1.toList = ([] : List UInt8) then (if t104 = true then (if t105 = true then (if t106 = true then (prog_names_step.j0 k a2 t105 false l0_0 l0_1 l0_2 a1_0 a1_1 a1_2 a1_3 a1_4 a1_5 l1_6 a1_7) else (prog_names_step.j0 k a2 t105 (a1_7 != 0) l0_0 l0_1 l0_2 a1_0 a1_1 a1_2 a1_3 a1_4 a1_5 l1_6 a1_7)) else ((prog_blank.f a1_3 a1_4 a1_5 l1_6).bind fun t110 => (if t110 = true then (if t106 = true then (prog_names_step.j0 k a2 t105 false l0_0 l0_1 l0_2 a1_0 a1_1 a1_2 a1_3 a1_4 a1_5 l1_6 a1_7) else (prog_names_step.j0 k a2 t105 (a1_7 != 0) l0_0 l0_1 l0_2 a1_0 a1_1 a1_2 a1_3 a1_4 a1_5 l1_6 a1_7)) else (prog_names_step.j0 k a2 t105 true l0_0 l0_1 l0_2 a1_0 a1_1 a1_2 a1_3 a1_4 a1_5 l1_6 a1_7)))) else (if a1_2.toList = ([] : List UInt8) then (if t105 = true then (if t106 = true then (prog_names_step.j0 k a2 t105 false l0_0 l0_1 l0_2 a1_0 a1_1 a1_2 a1_3 a1_4 a1_5 l1_6 a1_7) else (prog_names_step.j0 k a2 t105 (a1_7 != 0) l0_0 l0_1 l0_2 a1_0 a1_1 a1_2 a1_3 a1_4 a1_5 l1_6 a1_7)) else ((prog_blank.f a1_3 a1_4 a1_5 l1_6).bind fun t111 => (if t111 = true then (if t106 = true then (prog_names_step.j0 k a2 t105 false l0_0 l0_1 l0_2 a1_0 a1_1 a1_2 a1_3 a1_4 a1_5 l1_6 a1_7) else (prog_names_step.j0 k a2 t105 (a1_7 != 0) l0_0 l0_1 l0_2 a1_0 a1_1 a1_2 a1_3 a1_4 a1_5 l1_6 a1_7)) else (prog_names_step.j0 k a2 t105 true l0_0 l0_1 l0_2 a1_0 a1_1 a1_2 a1_3 a1_4 a1_5 l1_6 a1_7)))) else (prog_names_step.j0 k a2 t105 true l0_0 l0_1 l0_2 a1_0 a1_1 a1_2 a1_3 a1_4 a1_5 l1_6 a1_7))) else (prog_names_step.j0 k a2 t105 true l0_0 l0_1 l0_2 a1_0 a1_1 a1_2 a1_3 a1_4 a1_5 l1_6 a1_7)) = some r := by rw [if_neg (show ¬ (false = true) by decide)] at H; exact H
    clear H
    have H := H1
    clear H1
    by_cases c52 : a1_1.toList = ([] : List UInt8)
    ·rw [if_pos c52] at H
     have c52b0 : (a1_1.toList == ([] : List UInt8)) = true := beq_iff_eq.mpr c52
     have c52b1 : (a1_1.toList != ([] : List UInt8)) = false := bne_eq_false_iff_eq.mpr c52
     clear c52
     by_cases c53 : t104 = true
     ·subst c53
      have H1 : (if t105 = true then (if t106 = true then (prog_names_step.j0 k a2 t105 false l0_0 l0_1 l0_2 a1_0 a1_1 a1_2 a1_3 a1_4 a1_5 l1_6 a1_7) else (prog_names_step.j0 k a2 t105 (a1_7 != 0) l0_0 l0_1 l0_2 a1_0 a1_1 a1_2 a1_3 a1_4 a1_5 l1_6 a1_7)) else ((prog_blank.f a1_3 a1_4 a1_5 l1_6).bind fun t110 => (if t110 = true then (if t106 = true then (prog_names_step.j0 k a2 t105 false l0_0 l0_1 l0_2 a1_0 a1_1 a1_2 a1_3 a1_4 a1_5 l1_6 a1_7) else (prog_names_step.j0 k a2 t105 (a1_7 != 0) l0_0 l0_1 l0_2 a1_0 a1_1 a1_2 a1_3 a1_4 a1_5 l1_6 a1_7)) else (prog_names_step.j0 k a2 t105 true l0_0 l0_1 l0_2 a1_0 a1_1 a1_2 a1_3 a1_4 a1_5 l1_6 a1_7)))) = some r := by rw [if_pos rfl] at H; exact H
      clear H
      have H := H1
      clear H1
      by_cases c54 : t105 = true
      ·subst c54
       have H1 : (if t106 = true then (prog_names_step.j0 k a2 true false l0_0 l0_1 l0_2 a1_0 a1_1 a1_2 a1_3 a1_4 a1_5 l1_6 a1_7) else (prog_names_step.j0 k a2 true (a1_7 != 0) l0_0 l0_1 l0_2 a1_0 a1_1 a1_2 a1_3 a1_4 a1_5 l1_6 a1_7)) = some r := by rw [if_pos rfl] at H; exact H
       clear H
       have H := H1
       clear H1
       by_cases c55 : t106 = true
       ·subst c55
        have H1 : (prog_names_step.j0 k a2 true false l0_0 l0_1 l0_2 a1_0 a1_1 a1_2 a1_3 a1_4 a1_5 l1_6 a1_7) = some r := by rw [if_pos rfl] at H; exact H
        clear H
        have H := H1
        clear H1
        have H' := Aside0.mk H
        clear H
        have hnb56 := NB102_101.out
        have hnc56 := NB101_102.out
        have hcz57_0 : w7.cell? ⟨gb102, 0, none⟩ = some (.int .i64 a1_0) := (blk_cell BK102.out 0).trans rfl
        have hcz57_1 : w7.cell? ⟨gb102, 1, none⟩ = some (.string a1_1) := (blk_cell BK102.out 1).trans rfl
        have hcz57_2 : w7.cell? ⟨gb102, 2, none⟩ = some (.string a1_2) := (blk_cell BK102.out 2).trans rfl
        have hcz57_3 : w7.cell? ⟨gb102, 3, none⟩ = some (.int .i64 a1_3) := (blk_cell BK102.out 3).trans rfl
        have hcz57_4 : w7.cell? ⟨gb102, 4, none⟩ = some (.int .i64 a1_4) := (blk_cell BK102.out 4).trans rfl
        have hcz57_5 : w7.cell? ⟨gb102, 5, none⟩ = some (.string a1_5) := (blk_cell BK102.out 5).trans rfl
        have hcz57_6 : w7.cell? ⟨gb102, 6, none⟩ = some (.slice A1_6 l1_6.length c1_6) := (blk_cell BK102.out 6).trans rfl
        have hcz57_7 : w7.cell? ⟨gb102, 7, none⟩ = some (.int .i64 a1_7) := (blk_cell BK102.out 7).trans rfl
        have hfz57_0 := blk_frozen BK102.out 0
        have hfz57_1 := blk_frozen BK102.out 1
        have hfz57_2 := blk_frozen BK102.out 2
        have hfz57_3 := blk_frozen BK102.out 3
        have hfz57_4 := blk_frozen BK102.out 4
        have hfz57_5 := blk_frozen BK102.out 5
        have hfz57_6 := blk_frozen BK102.out 6
        have hfz57_7 := blk_frozen BK102.out 7
        as_aux_lemma =>
         go_wp2
         go_meet
         case rel => exact ⟨_, (false), (by first | rfl | (simp; done) | (simp [*]; done)), H', ⟨by first | omega | exact Nat.le_refl _⟩, ⟨by (with_reducible repeat (first | refine blk_drewN ?_ _ | refine blk_drew ?_ | refine blk_alloc ?_ _)); exact BK101.out⟩, ⟨by (with_reducible repeat (first | refine blk_drewN ?_ _ | refine blk_drew ?_ | refine blk_alloc ?_ _)); exact BK102.out⟩, ⟨by repeat (first | (with_reducible first | exact HB.out | apply below_alloc | apply pw_below_drewN | apply below_drew1 | refine below_set ?_ GE101.out | refine below_set ?_ GE102.out) | exact HB.out)⟩⟩
       ·replace c55 := Bool.eq_false_iff.mpr c55
        subst c55
        have H1 : (prog_names_step.j0 k a2 true (a1_7 != 0) l0_0 l0_1 l0_2 a1_0 a1_1 a1_2 a1_3 a1_4 a1_5 l1_6 a1_7) = some r := by rw [if_neg (show ¬ (false = true) by decide)] at H; exact H
        clear H
        have H := H1
        clear H1
        have H' := Aside0.mk H
        clear H
        have hnb58 := NB102_101.out
        have hnc58 := NB101_102.out
        have hcz59_0 : w7.cell? ⟨gb102, 0, none⟩ = some (.int .i64 a1_0) := (blk_cell BK102.out 0).trans rfl
        have hcz59_1 : w7.cell? ⟨gb102, 1, none⟩ = some (.string a1_1) := (blk_cell BK102.out 1).trans rfl
        have hcz59_2 : w7.cell? ⟨gb102, 2, none⟩ = some (.string a1_2) := (blk_cell BK102.out 2).trans rfl
        have hcz59_3 : w7.cell? ⟨gb102, 3, none⟩ = some (.int .i64 a1_3) := (blk_cell BK102.out 3).trans rfl
        have hcz59_4 : w7.cell? ⟨gb102, 4, none⟩ = some (.int .i64 a1_4) := (blk_cell BK102.out 4).trans rfl
        have hcz59_5 : w7.cell? ⟨gb102, 5, none⟩ = some (.string a1_5) := (blk_cell BK102.out 5).trans rfl
        have hcz59_6 : w7.cell? ⟨gb102, 6, none⟩ = some (.slice A1_6 l1_6.length c1_6) := (blk_cell BK102.out 6).trans rfl
        have hcz59_7 : w7.cell? ⟨gb102, 7, none⟩ = some (.int .i64 a1_7) := (blk_cell BK102.out 7).trans rfl
        have hfz59_0 := blk_frozen BK102.out 0
        have hfz59_1 := blk_frozen BK102.out 1
        have hfz59_2 := blk_frozen BK102.out 2
        have hfz59_3 := blk_frozen BK102.out 3
        have hfz59_4 := blk_frozen BK102.out 4
        have hfz59_5 := blk_frozen BK102.out 5
        have hfz59_6 := blk_frozen BK102.out 6
        have hfz59_7 := blk_frozen BK102.out 7
        as_aux_lemma =>
         go_wp2
         go_meet
         case rel => exact ⟨_, ((a1_7 != 0)), (by first | rfl | (simp; done) | (simp [*]; done)), H', ⟨by first | omega | exact Nat.le_refl _⟩, ⟨by (with_reducible repeat (first | refine blk_drewN ?_ _ | refine blk_drew ?_ | refine blk_alloc ?_ _)); exact BK101.out⟩, ⟨by (with_reducible repeat (first | refine blk_drewN ?_ _ | refine blk_drew ?_ | refine blk_alloc ?_ _)); exact BK102.out⟩, ⟨by repeat (first | (with_reducible first | exact HB.out | apply below_alloc | apply pw_below_drewN | apply below_drew1 | refine below_set ?_ GE101.out | refine below_set ?_ GE102.out) | exact HB.out)⟩⟩
      ·replace c54 := Bool.eq_false_iff.mpr c54
       subst c54
       have H1 : ((prog_blank.f a1_3 a1_4 a1_5 l1_6).bind fun t110 => (if t110 = true then (if t106 = true then (prog_names_step.j0 k a2 false false l0_0 l0_1 l0_2 a1_0 a1_1 a1_2 a1_3 a1_4 a1_5 l1_6 a1_7) else (prog_names_step.j0 k a2 false (a1_7 != 0) l0_0 l0_1 l0_2 a1_0 a1_1 a1_2 a1_3 a1_4 a1_5 l1_6 a1_7)) else (prog_names_step.j0 k a2 false true l0_0 l0_1 l0_2 a1_0 a1_1 a1_2 a1_3 a1_4 a1_5 l1_6 a1_7))) = some r := by rw [if_neg (show ¬ (false = true) by decide)] at H; exact H
       clear H
       have H := H1
       clear H1
       replace H := Option.bind_eq_some_iff.mp H
       obtain ⟨t110, A600, H⟩ := H
       replace H : (if t110 = true then (if t106 = true then (prog_names_step.j0 k a2 false false l0_0 l0_1 l0_2 a1_0 a1_1 a1_2 a1_3 a1_4 a1_5 l1_6 a1_7) else (prog_names_step.j0 k a2 false (a1_7 != 0) l0_0 l0_1 l0_2 a1_0 a1_1 a1_2 a1_3 a1_4 a1_5 l1_6 a1_7)) else (prog_names_step.j0 k a2 false true l0_0 l0_1 l0_2 a1_0 a1_1 a1_2 a1_3 a1_4 a1_5 l1_6 a1_7)) = some r := H
       have A60 := Aside0.mk A600
       clear A600
       by_cases c61 : t110 = true
       ·subst c61
        have H1 : (if t106 = true then (prog_names_step.j0 k a2 false false l0_0 l0_1 l0_2 a1_0 a1_1 a1_2 a1_3 a1_4 a1_5 l1_6 a1_7) else (prog_names_step.j0 k a2 false (a1_7 != 0) l0_0 l0_1 l0_2 a1_0 a1_1 a1_2 a1_3 a1_4 a1_5 l1_6 a1_7)) = some r := by rw [if_pos rfl] at H; exact H
        clear H
        have H := H1
        clear H1
        by_cases c62 : t106 = true
        ·subst c62
         have H1 : (prog_names_step.j0 k a2 false false l0_0 l0_1 l0_2 a1_0 a1_1 a1_2 a1_3 a1_4 a1_5 l1_6 a1_7) = some r := by rw [if_pos rfl] at H; exact H
         clear H
         have H := H1
         clear H1
         have H' := Aside0.mk H
         clear H
         have hnb63 := NB102_101.out
         have hnc63 := NB101_102.out
         have hcz64_0 : w7.cell? ⟨gb102, 0, none⟩ = some (.int .i64 a1_0) := (blk_cell BK102.out 0).trans rfl
         have hcz64_1 : w7.cell? ⟨gb102, 1, none⟩ = some (.string a1_1) := (blk_cell BK102.out 1).trans rfl
         have hcz64_2 : w7.cell? ⟨gb102, 2, none⟩ = some (.string a1_2) := (blk_cell BK102.out 2).trans rfl
         have hcz64_3 : w7.cell? ⟨gb102, 3, none⟩ = some (.int .i64 a1_3) := (blk_cell BK102.out 3).trans rfl
         have hcz64_4 : w7.cell? ⟨gb102, 4, none⟩ = some (.int .i64 a1_4) := (blk_cell BK102.out 4).trans rfl
         have hcz64_5 : w7.cell? ⟨gb102, 5, none⟩ = some (.string a1_5) := (blk_cell BK102.out 5).trans rfl
         have hcz64_6 : w7.cell? ⟨gb102, 6, none⟩ = some (.slice A1_6 l1_6.length c1_6) := (blk_cell BK102.out 6).trans rfl
         have hcz64_7 : w7.cell? ⟨gb102, 7, none⟩ = some (.int .i64 a1_7) := (blk_cell BK102.out 7).trans rfl
         have hfz64_0 := blk_frozen BK102.out 0
         have hfz64_1 := blk_frozen BK102.out 1
         have hfz64_2 := blk_frozen BK102.out 2
         have hfz64_3 := blk_frozen BK102.out 3
         have hfz64_4 := blk_frozen BK102.out 4
         have hfz64_5 := blk_frozen BK102.out 5
         have hfz64_6 := blk_frozen BK102.out 6
         have hfz64_7 := blk_frozen BK102.out 7
         as_aux_lemma =>
          go_wp2_with (first | (go_at_call 104; (with_reducible refine (prog_blank.calls a1_3 a1_4 a1_5 _ _ l1_6 true _ ?side1 ?side2 A60.out).mono ?_); (case side1 => repeat (first | exact (Kd.C_below HR1_6.out HB.out) | (with_reducible refine Kd.C_alloc ?_ _) | (with_reducible refine Kd.C_drewN ?_ _) | (with_reducible refine Kd.C_drew ?_))); (case side2 => exact HC1_6.out); rintro e w65 ⟨rfl, hb⟩; have n0_ := Aside0.mk (blk_below (g := gb101) (o := .cells #[.slice A0_0 l0_0.length c0_0, .slice A0_1 l0_1.length c0_1, .slice A0_2 l0_2.length c0_2] 121 (0, 0)) (by (with_reducible repeat (first | refine blk_drewN ?_ _ | refine blk_drew ?_ | refine blk_alloc ?_ _)); exact BK101.out) hb); have n1_ := Aside0.mk (blk_below (g := gb102) (o := .cells #[.int .i64 a1_0, .string a1_1, .string a1_2, .int .i64 a1_3, .int .i64 a1_4, .string a1_5, .slice A1_6 l1_6.length c1_6, .int .i64 a1_7] 67 (0, 0)) (by (with_reducible repeat (first | refine blk_drewN ?_ _ | refine blk_drew ?_ | refine blk_alloc ?_ _)); exact BK102.out) hb); have n2_ := Aside0.mk (below_step (by repeat (first | (with_reducible first | exact HB.out | apply below_alloc | apply pw_below_drewN | apply below_drew1 | refine below_set ?_ GE101.out | refine below_set ?_ GE102.out) | exact HB.out)) hb); clear BK101; clear BK102; clear HB; have BK101 := n0_; have BK102 := n1_; have HB := n2_; clear n0_ n1_ n2_; (try clear hb); (try clear hb2); (try clear hk); (try clear hi)))
          go_meet
          case rel => exact ⟨_, (false), (by first | rfl | (simp; done) | (simp [*]; done)), H', ⟨by first | omega | exact Nat.le_refl _⟩, ⟨by (with_reducible repeat (first | refine blk_drewN ?_ _ | refine blk_drew ?_ | refine blk_alloc ?_ _)); exact BK101.out⟩, ⟨by (with_reducible repeat (first | refine blk_drewN ?_ _ | refine blk_drew ?_ | refine blk_alloc ?_ _)); exact BK102.out⟩, ⟨by repeat (first | (with_reducible first | exact HB.out | apply below_alloc | apply pw_below_drewN | apply below_drew1 | refine below_set ?_ GE101.out | refine below_set ?_ GE102.out) | exact HB.out)⟩⟩
        ·replace c62 := Bool.eq_false_iff.mpr c62
         subst c62
         have H1 : (prog_names_step.j0 k a2 false (a1_7 != 0) l0_0 l0_1 l0_2 a1_0 a1_1 a1_2 a1_3 a1_4 a1_5 l1_6 a1_7) = some r := by rw [if_neg (show ¬ (false = true) by decide)] at H; exact H
         clear H
         have H := H1
         clear H1
         have H' := Aside0.mk H
         clear H
         have hnb66 := NB102_101.out
         have hnc66 := NB101_102.out
         have hcz67_0 : w7.cell? ⟨gb102, 0, none⟩ = some (.int .i64 a1_0) := (blk_cell BK102.out 0).trans rfl
         have hcz67_1 : w7.cell? ⟨gb102, 1, none⟩ = some (.string a1_1) := (blk_cell BK102.out 1).trans rfl
         have hcz67_2 : w7.cell? ⟨gb102, 2, none⟩ = some (.string a1_2) := (blk_cell BK102.out 2).trans rfl
         have hcz67_3 : w7.cell? ⟨gb102, 3, none⟩ = some (.int .i64 a1_3) := (blk_cell BK102.out 3).trans rfl
         have hcz67_4 : w7.cell? ⟨gb102, 4, none⟩ = some (.int .i64 a1_4) := (blk_cell BK102.out 4).trans rfl
         have hcz67_5 : w7.cell? ⟨gb102, 5, none⟩ = some (.string a1_5) := (blk_cell BK102.out 5).trans rfl
         have hcz67_6 : w7.cell? ⟨gb102, 6, none⟩ = some (.slice A1_6 l1_6.length c1_6) := (blk_cell BK102.out 6).trans rfl
         have hcz67_7 : w7.cell? ⟨gb102, 7, none⟩ = some (.int .i64 a1_7) := (blk_cell BK102.out 7).trans rfl
         have hfz67_0 := blk_frozen BK102.out 0
         have hfz67_1 := blk_frozen BK102.out 1
         have hfz67_2 := blk_frozen BK102.out 2
         have hfz67_3 := blk_frozen BK102.out 3
         have hfz67_4 := blk_frozen BK102.out 4
         have hfz67_5 := blk_frozen BK102.out 5
         have hfz67_6 := blk_frozen BK102.out 6
         have hfz67_7 := blk_frozen BK102.out 7
         as_aux_lemma =>
          go_wp2_with (first | (go_at_call 104; (with_reducible refine (prog_blank.calls a1_3 a1_4 a1_5 _ _ l1_6 true _ ?side1 ?side2 A60.out).mono ?_); (case side1 => repeat (first | exact (Kd.C_below HR1_6.out HB.out) | (with_reducible refine Kd.C_alloc ?_ _) | (with_reducible refine Kd.C_drewN ?_ _) | (with_reducible refine Kd.C_drew ?_))); (case side2 => exact HC1_6.out); rintro e w68 ⟨rfl, hb⟩; have n0_ := Aside0.mk (blk_below (g := gb101) (o := .cells #[.slice A0_0 l0_0.length c0_0, .slice A0_1 l0_1.length c0_1, .slice A0_2 l0_2.length c0_2] 121 (0, 0)) (by (with_reducible repeat (first | refine blk_drewN ?_ _ | refine blk_drew ?_ | refine blk_alloc ?_ _)); exact BK101.out) hb); have n1_ := Aside0.mk (blk_below (g := gb102) (o := .cells #[.int .i64 a1_0, .string a1_1, .string a1_2, .int .i64 a1_3, .int .i64 a1_4, .string a1_5, .slice A1_6 l1_6.length c1_6, .int .i64 a1_7] 67 (0, 0)) (by (with_reducible repeat (first | refine blk_drewN ?_ _ | refine blk_drew ?_ | refine blk_alloc ?_ _)); exact BK102.out) hb); have n2_ := Aside0.mk (below_step (by repeat (first | (with_reducible first | exact HB.out | apply below_alloc | apply pw_below_drewN | apply below_drew1 | refine below_set ?_ GE101.out | refine below_set ?_ GE102.out) | exact HB.out)) hb); clear BK101; clear BK102; clear HB; have BK101 := n0_; have BK102 := n1_; have HB := n2_; clear n0_ n1_ n2_; (try clear hb); (try clear hb2); (try clear hk); (try clear hi); have hcz69_0 : w68.cell? ⟨gb102, 0, none⟩ = some (.int .i64 a1_0) := (blk_cell BK102.out 0).trans rfl; have hcz69_1 : w68.cell? ⟨gb102, 1, none⟩ = some (.string a1_1) := (blk_cell BK102.out 1).trans rfl; have hcz69_2 : w68.cell? ⟨gb102, 2, none⟩ = some (.string a1_2) := (blk_cell BK102.out 2).trans rfl; have hcz69_3 : w68.cell? ⟨gb102, 3, none⟩ = some (.int .i64 a1_3) := (blk_cell BK102.out 3).trans rfl; have hcz69_4 : w68.cell? ⟨gb102, 4, none⟩ = some (.int .i64 a1_4) := (blk_cell BK102.out 4).trans rfl; have hcz69_5 : w68.cell? ⟨gb102, 5, none⟩ = some (.string a1_5) := (blk_cell BK102.out 5).trans rfl; have hcz69_6 : w68.cell? ⟨gb102, 6, none⟩ = some (.slice A1_6 l1_6.length c1_6) := (blk_cell BK102.out 6).trans rfl; have hcz69_7 : w68.cell? ⟨gb102, 7, none⟩ = some (.int .i64 a1_7) := (blk_cell BK102.out 7).trans rfl; have hfz69_0 := blk_frozen BK102.out 0; have hfz69_1 := blk_frozen BK102.out 1; have hfz69_2 := blk_frozen BK102.out 2; have hfz69_3 := blk_frozen BK102.out 3; have hfz69_4 := blk_frozen BK102.out 4; have hfz69_5 := blk_frozen BK102.out 5; have hfz69_6 := blk_frozen BK102.out 6; have hfz69_7 := blk_frozen BK102.out 7))
          go_meet
          case rel => exact ⟨_, ((a1_7 != 0)), (by first | rfl | (simp; done) | (simp [*]; done)), H', ⟨by first | omega | exact Nat.le_refl _⟩, ⟨by (with_reducible repeat (first | refine blk_drewN ?_ _ | refine blk_drew ?_ | refine blk_alloc ?_ _)); exact BK101.out⟩, ⟨by (with_reducible repeat (first | refine blk_drewN ?_ _ | refine blk_drew ?_ | refine blk_alloc ?_ _)); exact BK102.out⟩, ⟨by repeat (first | (with_reducible first | exact HB.out | apply below_alloc | apply pw_below_drewN | apply below_drew1 | refine below_set ?_ GE101.out | refine below_set ?_ GE102.out) | exact HB.out)⟩⟩
       ·replace c61 := Bool.eq_false_iff.mpr c61
        subst c61
        have H1 : (prog_names_step.j0 k a2 false true l0_0 l0_1 l0_2 a1_0 a1_1 a1_2 a1_3 a1_4 a1_5 l1_6 a1_7) = some r := by rw [if_neg (show ¬ (false = true) by decide)] at H; exact H
        clear H
        have H := H1
        clear H1
        have H' := Aside0.mk H
        clear H
        have hnb70 := NB102_101.out
        have hnc70 := NB101_102.out
        have hcz71_0 : w7.cell? ⟨gb102, 0, none⟩ = some (.int .i64 a1_0) := (blk_cell BK102.out 0).trans rfl
        have hcz71_1 : w7.cell? ⟨gb102, 1, none⟩ = some (.string a1_1) := (blk_cell BK102.out 1).trans rfl
        have hcz71_2 : w7.cell? ⟨gb102, 2, none⟩ = some (.string a1_2) := (blk_cell BK102.out 2).trans rfl
        have hcz71_3 : w7.cell? ⟨gb102, 3, none⟩ = some (.int .i64 a1_3) := (blk_cell BK102.out 3).trans rfl
        have hcz71_4 : w7.cell? ⟨gb102, 4, none⟩ = some (.int .i64 a1_4) := (blk_cell BK102.out 4).trans rfl
        have hcz71_5 : w7.cell? ⟨gb102, 5, none⟩ = some (.string a1_5) := (blk_cell BK102.out 5).trans rfl
        have hcz71_6 : w7.cell? ⟨gb102, 6, none⟩ = some (.slice A1_6 l1_6.length c1_6) := (blk_cell BK102.out 6).trans rfl
        have hcz71_7 : w7.cell? ⟨gb102, 7, none⟩ = some (.int .i64 a1_7) := (blk_cell BK102.out 7).trans rfl
        have hfz71_0 := blk_frozen BK102.out 0
        have hfz71_1 := blk_frozen BK102.out 1
        have hfz71_2 := blk_frozen BK102.out 2
        have hfz71_3 := blk_frozen BK102.out 3
        have hfz71_4 := blk_frozen BK102.out 4
        have hfz71_5 := blk_frozen BK102.out 5
        have hfz71_6 := blk_frozen BK102.out 6
        have hfz71_7 := blk_frozen BK102.out 7
        as_aux_lemma =>
         go_wp2_with (first | (go_at_call 104; (with_reducible refine (prog_blank.calls a1_3 a1_4 a1_5 _ _ l1_6 false _ ?side1 ?side2 A60.out).mono ?_); (case side1 => repeat (first | exact (Kd.C_below HR1_6.out HB.out) | (with_reducible refine Kd.C_alloc ?_ _) | (with_reducible refine Kd.C_drewN ?_ _) | (with_reducible refine Kd.C_drew ?_))); (case side2 => exact HC1_6.out); rintro e w72 ⟨rfl, hb⟩; have n0_ := Aside0.mk (blk_below (g := gb101) (o := .cells #[.slice A0_0 l0_0.length c0_0, .slice A0_1 l0_1.length c0_1, .slice A0_2 l0_2.length c0_2] 121 (0, 0)) (by (with_reducible repeat (first | refine blk_drewN ?_ _ | refine blk_drew ?_ | refine blk_alloc ?_ _)); exact BK101.out) hb); have n1_ := Aside0.mk (blk_below (g := gb102) (o := .cells #[.int .i64 a1_0, .string a1_1, .string a1_2, .int .i64 a1_3, .int .i64 a1_4, .string a1_5, .slice A1_6 l1_6.length c1_6, .int .i64 a1_7] 67 (0, 0)) (by (with_reducible repeat (first | refine blk_drewN ?_ _ | refine blk_drew ?_ | refine blk_alloc ?_ _)); exact BK102.out) hb); have n2_ := Aside0.mk (below_step (by repeat (first | (with_reducible first | exact HB.out | apply below_alloc | apply pw_below_drewN | apply below_drew1 | refine below_set ?_ GE101.out | refine below_set ?_ GE102.out) | exact HB.out)) hb); clear BK101; clear BK102; clear HB; have BK101 := n0_; have BK102 := n1_; have HB := n2_; clear n0_ n1_ n2_; (try clear hb); (try clear hb2); (try clear hk); (try clear hi)))
         go_meet
         case rel => exact ⟨_, (true), (by first | rfl | (simp; done) | (simp [*]; done)), H', ⟨by first | omega | exact Nat.le_refl _⟩, ⟨by (with_reducible repeat (first | refine blk_drewN ?_ _ | refine blk_drew ?_ | refine blk_alloc ?_ _)); exact BK101.out⟩, ⟨by (with_reducible repeat (first | refine blk_drewN ?_ _ | refine blk_drew ?_ | refine blk_alloc ?_ _)); exact BK102.out⟩, ⟨by repeat (first | (with_reducible first | exact HB.out | apply below_alloc | apply pw_below_drewN | apply below_drew1 | refine below_set ?_ GE101.out | refine below_set ?_ GE102.out) | exact HB.out)⟩⟩
     ·replace c53 := Bool.eq_false_iff.mpr c53
      subst c53
      have H1 : (if a1_2.toList = ([] : List UInt8) then (if t105 = true then (if t106 = true then (prog_names_step.j0 k a2 t105 false l0_0 l0_1 l0_2 a1_0 a1_1 a1_2 a1_3 a1_4 a1_5 l1_6 a1_7) else (prog_names_step.j0 k a2 t105 (a1_7 != 0) l0_0 l0_1 l0_2 a1_0 a1_1 a1_2 a1_3 a1_4 a1_5 l1_6 a1_7)) else ((prog_blank.f a1_3 a1_4 a1_5 l1_6).bind fun t111 => (if t111 = true then (if t106 = true then (prog_names_step.j0 k a2 t105 false l0_0 l0_1 l0_2 a1_0 a1_1 a1_2 a1_3 a1_4 a1_5 l1_6 a1_7) else (prog_names_step.j0 k a2 t105 (a1_7 != 0) l0_0 l0_1 l0_2 a1_0 a1_1 a1_2 a1_3 a1_4 a1_5 l1_6 a1_7)) else (prog_names_step.j0 k a2 t105 true l0_0 l0_1 l0_2 a1_0 a1_1 a1_2 a1_3 a1_4 a1_5 l1_6 a1_7)))) else (prog_names_step.j0 k a2 t105 true l0_0 l0_1 l0_2 a1_0 a1_1 a1_2 a1_3 a1_4 a1_5 l1_6 a1_7)) = some r := by rw [if_neg (show ¬ (false = true) by decide)] at H; exact H
      clear H
      have H := H1
      clear H1
      by_cases c73 : a1_2.toList = ([] : List UInt8)
      ·rw [if_pos c73] at H
       have c73b0 : (a1_2.toList == ([] : List UInt8)) = true := beq_iff_eq.mpr c73
       have c73b1 : (a1_2.toList != ([] : List UInt8)) = false := bne_eq_false_iff_eq.mpr c73
       clear c73
       by_cases c74 : t105 = true
       ·subst c74
        have H1 : (if t106 = true then (prog_names_step.j0 k a2 true false l0_0 l0_1 l0_2 a1_0 a1_1 a1_2 a1_3 a1_4 a1_5 l1_6 a1_7) else (prog_names_step.j0 k a2 true (a1_7 != 0) l0_0 l0_1 l0_2 a1_0 a1_1 a1_2 a1_3 a1_4 a1_5 l1_6 a1_7)) = some r := by rw [if_pos rfl] at H; exact H
        clear H
        have H := H1
        clear H1
        by_cases c75 : t106 = true
        ·subst c75
         have H1 : (prog_names_step.j0 k a2 true false l0_0 l0_1 l0_2 a1_0 a1_1 a1_2 a1_3 a1_4 a1_5 l1_6 a1_7) = some r := by rw [if_pos rfl] at H; exact H
         clear H
         have H := H1
         clear H1
         have H' := Aside0.mk H
         clear H
         have hnb76 := NB102_101.out
         have hnc76 := NB101_102.out
         have hcz77_0 : w7.cell? ⟨gb102, 0, none⟩ = some (.int .i64 a1_0) := (blk_cell BK102.out 0).trans rfl
         have hcz77_1 : w7.cell? ⟨gb102, 1, none⟩ = some (.string a1_1) := (blk_cell BK102.out 1).trans rfl
         have hcz77_2 : w7.cell? ⟨gb102, 2, none⟩ = some (.string a1_2) := (blk_cell BK102.out 2).trans rfl
         have hcz77_3 : w7.cell? ⟨gb102, 3, none⟩ = some (.int .i64 a1_3) := (blk_cell BK102.out 3).trans rfl
         have hcz77_4 : w7.cell? ⟨gb102, 4, none⟩ = some (.int .i64 a1_4) := (blk_cell BK102.out 4).trans rfl
         have hcz77_5 : w7.cell? ⟨gb102, 5, none⟩ = some (.string a1_5) := (blk_cell BK102.out 5).trans rfl
         have hcz77_6 : w7.cell? ⟨gb102, 6, none⟩ = some (.slice A1_6 l1_6.length c1_6) := (blk_cell BK102.out 6).trans rfl
         have hcz77_7 : w7.cell? ⟨gb102, 7, none⟩ = some (.int .i64 a1_7) := (blk_cell BK102.out 7).trans rfl
         have hfz77_0 := blk_frozen BK102.out 0
         have hfz77_1 := blk_frozen BK102.out 1
         have hfz77_2 := blk_frozen BK102.out 2
         have hfz77_3 := blk_frozen BK102.out 3
         have hfz77_4 := blk_frozen BK102.out 4
         have hfz77_5 := blk_frozen BK102.out 5
         have hfz77_6 := blk_frozen BK102.out 6
         have hfz77_7 := blk_frozen BK102.out 7
         as_aux_lemma =>
          go_wp2
          go_meet
          case rel => exact ⟨_, (false), (by first | rfl | (simp; done) | (simp [*]; done)), H', ⟨by first | omega | exact Nat.le_refl _⟩, ⟨by (with_reducible repeat (first | refine blk_drewN ?_ _ | refine blk_drew ?_ | refine blk_alloc ?_ _)); exact BK101.out⟩, ⟨by (with_reducible repeat (first | refine blk_drewN ?_ _ | refine blk_drew ?_ | refine blk_alloc ?_ _)); exact BK102.out⟩, ⟨by repeat (first | (with_reducible first | exact HB.out | apply below_alloc | apply pw_below_drewN | apply below_drew1 | refine below_set ?_ GE101.out | refine below_set ?_ GE102.out) | exact HB.out)⟩⟩
        ·replace c75 := Bool.eq_false_iff.mpr c75
         subst c75
         have H1 : (prog_names_step.j0 k a2 true (a1_7 != 0) l0_0 l0_1 l0_2 a1_0 a1_1 a1_2 a1_3 a1_4 a1_5 l1_6 a1_7) = some r := by rw [if_neg (show ¬ (false = true) by decide)] at H; exact H
         clear H
         have H := H1
         clear H1
         have H' := Aside0.mk H
         clear H
         have hnb78 := NB102_101.out
         have hnc78 := NB101_102.out
         have hcz79_0 : w7.cell? ⟨gb102, 0, none⟩ = some (.int .i64 a1_0) := (blk_cell BK102.out 0).trans rfl
         have hcz79_1 : w7.cell? ⟨gb102, 1, none⟩ = some (.string a1_1) := (blk_cell BK102.out 1).trans rfl
         have hcz79_2 : w7.cell? ⟨gb102, 2, none⟩ = some (.string a1_2) := (blk_cell BK102.out 2).trans rfl
         have hcz79_3 : w7.cell? ⟨gb102, 3, none⟩ = some (.int .i64 a1_3) := (blk_cell BK102.out 3).trans rfl
         have hcz79_4 : w7.cell? ⟨gb102, 4, none⟩ = some (.int .i64 a1_4) := (blk_cell BK102.out 4).trans rfl
         have hcz79_5 : w7.cell? ⟨gb102, 5, none⟩ = some (.string a1_5) := (blk_cell BK102.out 5).trans rfl
         have hcz79_6 : w7.cell? ⟨gb102, 6, none⟩ = some (.slice A1_6 l1_6.length c1_6) := (blk_cell BK102.out 6).trans rfl
         have hcz79_7 : w7.cell? ⟨gb102, 7, none⟩ = some (.int .i64 a1_7) := (blk_cell BK102.out 7).trans rfl
         have hfz79_0 := blk_frozen BK102.out 0
         have hfz79_1 := blk_frozen BK102.out 1
         have hfz79_2 := blk_frozen BK102.out 2
         have hfz79_3 := blk_frozen BK102.out 3
         have hfz79_4 := blk_frozen BK102.out 4
         have hfz79_5 := blk_frozen BK102.out 5
         have hfz79_6 := blk_frozen BK102.out 6
         have hfz79_7 := blk_frozen BK102.out 7
         as_aux_lemma =>
          go_wp2
          go_meet
          case rel => exact ⟨_, ((a1_7 != 0)), (by first | rfl | (simp; done) | (simp [*]; done)), H', ⟨by first | omega | exact Nat.le_refl _⟩, ⟨by (with_reducible repeat (first | refine blk_drewN ?_ _ | refine blk_drew ?_ | refine blk_alloc ?_ _)); exact BK101.out⟩, ⟨by (with_reducible repeat (first | refine blk_drewN ?_ _ | refine blk_drew ?_ | refine blk_alloc ?_ _)); exact BK102.out⟩, ⟨by repeat (first | (with_reducible first | exact HB.out | apply below_alloc | apply pw_below_drewN | apply below_drew1 | refine below_set ?_ GE101.out | refine below_set ?_ GE102.out) | exact HB.out)⟩⟩
       ·replace c74 := Bool.eq_false_iff.mpr c74
        subst c74
        have H1 : ((prog_blank.f a1_3 a1_4 a1_5 l1_6).bind fun t111 => (if t111 = true then (if t106 = true then (prog_names_step.j0 k a2 false false l0_0 l0_1 l0_2 a1_0 a1_1 a1_2 a1_3 a1_4 a1_5 l1_6 a1_7) else (prog_names_step.j0 k a2 false (a1_7 != 0) l0_0 l0_1 l0_2 a1_0 a1_1 a1_2 a1_3 a1_4 a1_5 l1_6 a1_7)) else (prog_names_step.j0 k a2 false true l0_0 l0_1 l0_2 a1_0 a1_1 a1_2 a1_3 a1_4 a1_5 l1_6 a1_7))) = some r := by rw [if_neg (show ¬ (false = true) by decide)] at H; exact H
        clear H
        have H := H1
        clear H1
        replace H := Option.bind_eq_some_iff.mp H
        obtain ⟨t111, A800, H⟩ := H
        replace H : (if t111 = true then (if t106 = true then (prog_names_step.j0 k a2 false false l0_0 l0_1 l0_2 a1_0 a1_1 a1_2 a1_3 a1_4 a1_5 l1_6 a1_7) else (prog_names_step.j0 k a2 false (a1_7 != 0) l0_0 l0_1 l0_2 a1_0 a1_1 a1_2 a1_3 a1_4 a1_5 l1_6 a1_7)) else (prog_names_step.j0 k a2 false true l0_0 l0_1 l0_2 a1_0 a1_1 a1_2 a1_3 a1_4 a1_5 l1_6 a1_7)) = some r := H
        have A80 := Aside0.mk A800
        clear A800
        by_cases c81 : t111 = true
        ·subst c81
         have H1 : (if t106 = true then (prog_names_step.j0 k a2 false false l0_0 l0_1 l0_2 a1_0 a1_1 a1_2 a1_3 a1_4 a1_5 l1_6 a1_7) else (prog_names_step.j0 k a2 false (a1_7 != 0) l0_0 l0_1 l0_2 a1_0 a1_1 a1_2 a1_3 a1_4 a1_5 l1_6 a1_7)) = some r := by rw [if_pos rfl] at H; exact H
         clear H
         have H := H1
         clear H1
         by_cases c82 : t106 = true
         ·subst c82
          have H1 : (prog_names_step.j0 k a2 false false l0_0 l0_1 l0_2 a1_0 a1_1 a1_2 a1_3 a1_4 a1_5 l1_6 a1_7) = some r := by rw [if_pos rfl] at H; exact H
          clear H
          have H := H1
          clear H1
          have H' := Aside0.mk H
          clear H
          have hnb83 := NB102_101.out
          have hnc83 := NB101_102.out
          have hcz84_0 : w7.cell? ⟨gb102, 0, none⟩ = some (.int .i64 a1_0) := (blk_cell BK102.out 0).trans rfl
          have hcz84_1 : w7.cell? ⟨gb102, 1, none⟩ = some (.string a1_1) := (blk_cell BK102.out 1).trans rfl
          have hcz84_2 : w7.cell? ⟨gb102, 2, none⟩ = some (.string a1_2) := (blk_cell BK102.out 2).trans rfl
          have hcz84_3 : w7.cell? ⟨gb102, 3, none⟩ = some (.int .i64 a1_3) := (blk_cell BK102.out 3).trans rfl
          have hcz84_4 : w7.cell? ⟨gb102, 4, none⟩ = some (.int .i64 a1_4) := (blk_cell BK102.out 4).trans rfl
          have hcz84_5 : w7.cell? ⟨gb102, 5, none⟩ = some (.string a1_5) := (blk_cell BK102.out 5).trans rfl
          have hcz84_6 : w7.cell? ⟨gb102, 6, none⟩ = some (.slice A1_6 l1_6.length c1_6) := (blk_cell BK102.out 6).trans rfl
          have hcz84_7 : w7.cell? ⟨gb102, 7, none⟩ = some (.int .i64 a1_7) := (blk_cell BK102.out 7).trans rfl
          have hfz84_0 := blk_frozen BK102.out 0
          have hfz84_1 := blk_frozen BK102.out 1
          have hfz84_2 := blk_frozen BK102.out 2
          have hfz84_3 := blk_frozen BK102.out 3
          have hfz84_4 := blk_frozen BK102.out 4
          have hfz84_5 := blk_frozen BK102.out 5
          have hfz84_6 := blk_frozen BK102.out 6
          have hfz84_7 := blk_frozen BK102.out 7
          as_aux_lemma =>
           go_wp2_with (first | (go_at_call 104; (with_reducible refine (prog_blank.calls a1_3 a1_4 a1_5 _ _ l1_6 true _ ?side1 ?side2 A80.out).mono ?_); (case side1 => repeat (first | exact (Kd.C_below HR1_6.out HB.out) | (with_reducible refine Kd.C_alloc ?_ _) | (with_reducible refine Kd.C_drewN ?_ _) | (with_reducible refine Kd.C_drew ?_))); (case side2 => exact HC1_6.out); rintro e w85 ⟨rfl, hb⟩; have n0_ := Aside0.mk (blk_below (g := gb101) (o := .cells #[.slice A0_0 l0_0.length c0_0, .slice A0_1 l0_1.length c0_1, .slice A0_2 l0_2.length c0_2] 121 (0, 0)) (by (with_reducible repeat (first | refine blk_drewN ?_ _ | refine blk_drew ?_ | refine blk_alloc ?_ _)); exact BK101.out) hb); have n1_ := Aside0.mk (blk_below (g := gb102) (o := .cells #[.int .i64 a1_0, .string a1_1, .string a1_2, .int .i64 a1_3, .int .i64 a1_4, .string a1_5, .slice A1_6 l1_6.length c1_6, .int .i64 a1_7] 67 (0, 0)) (by (with_reducible repeat (first | refine blk_drewN ?_ _ | refine blk_drew ?_ | refine blk_alloc ?_ _)); exact BK102.out) hb); have n2_ := Aside0.mk (below_step (by repeat (first | (with_reducible first | exact HB.out | apply below_alloc | apply pw_below_drewN | apply below_drew1 | refine below_set ?_ GE101.out | refine below_set ?_ GE102.out) | exact HB.out)) hb); clear BK101; clear BK102; clear HB; have BK101 := n0_; have BK102 := n1_; have HB := n2_; clear n0_ n1_ n2_; (try clear hb); (try clear hb2); (try clear hk); (try clear hi)))
           go_meet
           case rel => exact ⟨_, (false), (by first | rfl | (simp; done) | (simp [*]; done)), H', ⟨by first | omega | exact Nat.le_refl _⟩, ⟨by (with_reducible repeat (first | refine blk_drewN ?_ _ | refine blk_drew ?_ | refine blk_alloc ?_ _)); exact BK101.out⟩, ⟨by (with_reducible repeat (first | refine blk_drewN ?_ _ | refine blk_drew ?_ | refine blk_alloc ?_ _)); exact BK102.out⟩, ⟨by repeat (first | (with_reducible first | exact HB.out | apply below_alloc | apply pw_below_drewN | apply below_drew1 | refine below_set ?_ GE101.out | refine below_set ?_ GE102.out) | exact HB.out)⟩⟩
         ·replace c82 := Bool.eq_false_iff.mpr c82
          subst c82
          have H1 : (prog_names_step.j0 k a2 false (a1_7 != 0) l0_0 l0_1 l0_2 a1_0 a1_1 a1_2 a1_3 a1_4 a1_5 l1_6 a1_7) = some r := by rw [if_neg (show ¬ (false = true) by decide)] at H; exact H
          clear H
          have H := H1
          clear H1
          have H' := Aside0.mk H
          clear H
          have hnb86 := NB102_101.out
          have hnc86 := NB101_102.out
          have hcz87_0 : w7.cell? ⟨gb102, 0, none⟩ = some (.int .i64 a1_0) := (blk_cell BK102.out 0).trans rfl
          have hcz87_1 : w7.cell? ⟨gb102, 1, none⟩ = some (.string a1_1) := (blk_cell BK102.out 1).trans rfl
          have hcz87_2 : w7.cell? ⟨gb102, 2, none⟩ = some (.string a1_2) := (blk_cell BK102.out 2).trans rfl
          have hcz87_3 : w7.cell? ⟨gb102, 3, none⟩ = some (.int .i64 a1_3) := (blk_cell BK102.out 3).trans rfl
          have hcz87_4 : w7.cell? ⟨gb102, 4, none⟩ = some (.int .i64 a1_4) := (blk_cell BK102.out 4).trans rfl
          have hcz87_5 : w7.cell? ⟨gb102, 5, none⟩ = some (.string a1_5) := (blk_cell BK102.out 5).trans rfl
          have hcz87_6 : w7.cell? ⟨gb102, 6, none⟩ = some (.slice A1_6 l1_6.length c1_6) := (blk_cell BK102.out 6).trans rfl
          have hcz87_7 : w7.cell? ⟨gb102, 7, none⟩ = some (.int .i64 a1_7) := (blk_cell BK102.out 7).trans rfl
          have hfz87_0 := blk_frozen BK102.out 0
          have hfz87_1 := blk_frozen BK102.out 1
          have hfz87_2 := blk_frozen BK102.out 2
          have hfz87_3 := blk_frozen BK102.out 3
          have hfz87_4 := blk_frozen BK102.out 4
          have hfz87_5 := blk_frozen BK102.out 5
          have hfz87_6 := blk_frozen BK102.out 6
          have hfz87_7 := blk_frozen BK102.out 7
          as_aux_lemma =>
           go_wp2_with (first | (go_at_call 104; (with_reducible refine (prog_blank.calls a1_3 a1_4 a1_5 _ _ l1_6 true _ ?side1 ?side2 A80.out).mono ?_); (case side1 => repeat (first | exact (Kd.C_below HR1_6.out HB.out) | (with_reducible refine Kd.C_alloc ?_ _) | (with_reducible refine Kd.C_drewN ?_ _) | (with_reducible refine Kd.C_drew ?_))); (case side2 => exact HC1_6.out); rintro e w88 ⟨rfl, hb⟩; have n0_ := Aside0.mk (blk_below (g := gb101) (o := .cells #[.slice A0_0 l0_0.length c0_0, .slice A0_1 l0_1.length c0_1, .slice A0_2 l0_2.length c0_2] 121 (0, 0)) (by (with_reducible repeat (first | refine blk_drewN ?_ _ | refine blk_drew ?_ | refine blk_alloc ?_ _)); exact BK101.out) hb); have n1_ := Aside0.mk (blk_below (g := gb102) (o := .cells #[.int .i64 a1_0, .string a1_1, .string a1_2, .int .i64 a1_3, .int .i64 a1_4, .string a1_5, .slice A1_6 l1_6.length c1_6, .int .i64 a1_7] 67 (0, 0)) (by (with_reducible repeat (first | refine blk_drewN ?_ _ | refine blk_drew ?_ | refine blk_alloc ?_ _)); exact BK102.out) hb); have n2_ := Aside0.mk (below_step (by repeat (first | (with_reducible first | exact HB.out | apply below_alloc | apply pw_below_drewN | apply below_drew1 | refine below_set ?_ GE101.out | refine below_set ?_ GE102.out) | exact HB.out)) hb); clear BK101; clear BK102; clear HB; have BK101 := n0_; have BK102 := n1_; have HB := n2_; clear n0_ n1_ n2_; (try clear hb); (try clear hb2); (try clear hk); (try clear hi); have hcz89_0 : w88.cell? ⟨gb102, 0, none⟩ = some (.int .i64 a1_0) := (blk_cell BK102.out 0).trans rfl; have hcz89_1 : w88.cell? ⟨gb102, 1, none⟩ = some (.string a1_1) := (blk_cell BK102.out 1).trans rfl; have hcz89_2 : w88.cell? ⟨gb102, 2, none⟩ = some (.string a1_2) := (blk_cell BK102.out 2).trans rfl; have hcz89_3 : w88.cell? ⟨gb102, 3, none⟩ = some (.int .i64 a1_3) := (blk_cell BK102.out 3).trans rfl; have hcz89_4 : w88.cell? ⟨gb102, 4, none⟩ = some (.int .i64 a1_4) := (blk_cell BK102.out 4).trans rfl; have hcz89_5 : w88.cell? ⟨gb102, 5, none⟩ = some (.string a1_5) := (blk_cell BK102.out 5).trans rfl; have hcz89_6 : w88.cell? ⟨gb102, 6, none⟩ = some (.slice A1_6 l1_6.length c1_6) := (blk_cell BK102.out 6).trans rfl; have hcz89_7 : w88.cell? ⟨gb102, 7, none⟩ = some (.int .i64 a1_7) := (blk_cell BK102.out 7).trans rfl; have hfz89_0 := blk_frozen BK102.out 0; have hfz89_1 := blk_frozen BK102.out 1; have hfz89_2 := blk_frozen BK102.out 2; have hfz89_3 := blk_frozen BK102.out 3; have hfz89_4 := blk_frozen BK102.out 4; have hfz89_5 := blk_frozen BK102.out 5; have hfz89_6 := blk_frozen BK102.out 6; have hfz89_7 := blk_frozen BK102.out 7))
           go_meet
           case rel => exact ⟨_, ((a1_7 != 0)), (by first | rfl | (simp; done) | (simp [*]; done)), H', ⟨by first | omega | exact Nat.le_refl _⟩, ⟨by (with_reducible repeat (first | refine blk_drewN ?_ _ | refine blk_drew ?_ | refine blk_alloc ?_ _)); exact BK101.out⟩, ⟨by (with_reducible repeat (first | refine blk_drewN ?_ _ | refine blk_drew ?_ | refine blk_alloc ?_ _)); exact BK102.out⟩, ⟨by repeat (first | (with_reducible first | exact HB.out | apply below_alloc | apply pw_below_drewN | apply below_drew1 | refine below_set ?_ GE101.out | refine below_set ?_ GE102.out) | exact HB.out)⟩⟩
        ·replace c81 := Bool.eq_false_iff.mpr c81
         subst c81
         have H1 : (prog_names_step.j0 k a2 false true l0_0 l0_1 l0_2 a1_0 a1_1 a1_2 a1_3 a1_4 a1_5 l1_6 a1_7) = some r := by rw [if_neg (show ¬ (false = true) by decide)] at H; exact H
         clear H
         have H := H1
         clear H1
         have H' := Aside0.mk H
         clear H
         have hnb90 := NB102_101.out
         have hnc90 := NB101_102.out
         have hcz91_0 : w7.cell? ⟨gb102, 0, none⟩ = some (.int .i64 a1_0) := (blk_cell BK102.out 0).trans rfl
         have hcz91_1 : w7.cell? ⟨gb102, 1, none⟩ = some (.string a1_1) := (blk_cell BK102.out 1).trans rfl
         have hcz91_2 : w7.cell? ⟨gb102, 2, none⟩ = some (.string a1_2) := (blk_cell BK102.out 2).trans rfl
         have hcz91_3 : w7.cell? ⟨gb102, 3, none⟩ = some (.int .i64 a1_3) := (blk_cell BK102.out 3).trans rfl
         have hcz91_4 : w7.cell? ⟨gb102, 4, none⟩ = some (.int .i64 a1_4) := (blk_cell BK102.out 4).trans rfl
         have hcz91_5 : w7.cell? ⟨gb102, 5, none⟩ = some (.string a1_5) := (blk_cell BK102.out 5).trans rfl
         have hcz91_6 : w7.cell? ⟨gb102, 6, none⟩ = some (.slice A1_6 l1_6.length c1_6) := (blk_cell BK102.out 6).trans rfl
         have hcz91_7 : w7.cell? ⟨gb102, 7, none⟩ = some (.int .i64 a1_7) := (blk_cell BK102.out 7).trans rfl
         have hfz91_0 := blk_frozen BK102.out 0
         have hfz91_1 := blk_frozen BK102.out 1
         have hfz91_2 := blk_frozen BK102.out 2
         have hfz91_3 := blk_frozen BK102.out 3
         have hfz91_4 := blk_frozen BK102.out 4
         have hfz91_5 := blk_frozen BK102.out 5
         have hfz91_6 := blk_frozen BK102.out 6
         have hfz91_7 := blk_frozen BK102.out 7
         as_aux_lemma =>
          go_wp2_with (first | (go_at_call 104; (with_reducible refine (prog_blank.calls a1_3 a1_4 a1_5 _ _ l1_6 false _ ?side1 ?side2 A80.out).mono ?_); (case side1 => repeat (first | exact (Kd.C_below HR1_6.out HB.out) | (with_reducible refine Kd.C_alloc ?_ _) | (with_reducible refine Kd.C_drewN ?_ _) | (with_reducible refine Kd.C_drew ?_))); (case side2 => exact HC1_6.out); rintro e w92 ⟨rfl, hb⟩; have n0_ := Aside0.mk (blk_below (g := gb101) (o := .cells #[.slice A0_0 l0_0.length c0_0, .slice A0_1 l0_1.length c0_1, .slice A0_2 l0_2.length c0_2] 121 (0, 0)) (by (with_reducible repeat (first | refine blk_drewN ?_ _ | refine blk_drew ?_ | refine blk_alloc ?_ _)); exact BK101.out) hb); have n1_ := Aside0.mk (blk_below (g := gb102) (o := .cells #[.int .i64 a1_0, .string a1_1, .string a1_2, .int .i64 a1_3, .int .i64 a1_4, .string a1_5, .slice A1_6 l1_6.length c1_6, .int .i64 a1_7] 67 (0, 0)) (by (with_reducible repeat (first | refine blk_drewN ?_ _ | refine blk_drew ?_ | refine blk_alloc ?_ _)); exact BK102.out) hb); have n2_ := Aside0.mk (below_step (by repeat (first | (with_reducible first | exact HB.out | apply below_alloc | apply pw_below_drewN | apply below_drew1 | refine below_set ?_ GE101.out | refine below_set ?_ GE102.out) | exact HB.out)) hb); clear BK101; clear BK102; clear HB; have BK101 := n0_; have BK102 := n1_; have HB := n2_; clear n0_ n1_ n2_; (try clear hb); (try clear hb2); (try clear hk); (try clear hi)))
          go_meet
          case rel => exact ⟨_, (true), (by first | rfl | (simp; done) | (simp [*]; done)), H', ⟨by first | omega | exact Nat.le_refl _⟩, ⟨by (with_reducible repeat (first | refine blk_drewN ?_ _ | refine blk_drew ?_ | refine blk_alloc ?_ _)); exact BK101.out⟩, ⟨by (with_reducible repeat (first | refine blk_drewN ?_ _ | refine blk_drew ?_ | refine blk_alloc ?_ _)); exact BK102.out⟩, ⟨by repeat (first | (with_reducible first | exact HB.out | apply below_alloc | apply pw_below_drewN | apply below_drew1 | refine below_set ?_ GE101.out | refine below_set ?_ GE102.out) | exact HB.out)⟩⟩
      ·rw [if_neg c73] at H
       have c73b0 : (a1_2.toList == ([] : List UInt8)) = false := beq_eq_false_iff_ne.mpr c73
       have c73b1 : (a1_2.toList != ([] : List UInt8)) = true := bne_iff_ne.mpr c73
       have H' := Aside0.mk H
       clear H
       have hnb93 := NB102_101.out
       have hnc93 := NB101_102.out
       have hcz94_0 : w7.cell? ⟨gb102, 0, none⟩ = some (.int .i64 a1_0) := (blk_cell BK102.out 0).trans rfl
       have hcz94_1 : w7.cell? ⟨gb102, 1, none⟩ = some (.string a1_1) := (blk_cell BK102.out 1).trans rfl
       have hcz94_2 : w7.cell? ⟨gb102, 2, none⟩ = some (.string a1_2) := (blk_cell BK102.out 2).trans rfl
       have hcz94_3 : w7.cell? ⟨gb102, 3, none⟩ = some (.int .i64 a1_3) := (blk_cell BK102.out 3).trans rfl
       have hcz94_4 : w7.cell? ⟨gb102, 4, none⟩ = some (.int .i64 a1_4) := (blk_cell BK102.out 4).trans rfl
       have hcz94_5 : w7.cell? ⟨gb102, 5, none⟩ = some (.string a1_5) := (blk_cell BK102.out 5).trans rfl
       have hcz94_6 : w7.cell? ⟨gb102, 6, none⟩ = some (.slice A1_6 l1_6.length c1_6) := (blk_cell BK102.out 6).trans rfl
       have hcz94_7 : w7.cell? ⟨gb102, 7, none⟩ = some (.int .i64 a1_7) := (blk_cell BK102.out 7).trans rfl
       have hfz94_0 := blk_frozen BK102.out 0
       have hfz94_1 := blk_frozen BK102.out 1
       have hfz94_2 := blk_frozen BK102.out 2
       have hfz94_3 := blk_frozen BK102.out 3
       have hfz94_4 := blk_frozen BK102.out 4
       have hfz94_5 := blk_frozen BK102.out 5
       have hfz94_6 := blk_frozen BK102.out 6
       have hfz94_7 := blk_frozen BK102.out 7
       as_aux_lemma =>
        go_wp2
        go_meet
        case rel => exact ⟨_, (true), (by first | rfl | (simp; done) | (simp [*]; done)), H', ⟨by first | omega | exact Nat.le_refl _⟩, ⟨by (with_reducible repeat (first | refine blk_drewN ?_ _ | refine blk_drew ?_ | refine blk_alloc ?_ _)); exact BK101.out⟩, ⟨by (with_reducible repeat (first | refine blk_drewN ?_ _ | refine blk_drew ?_ | refine blk_alloc ?_ _)); exact BK102.out⟩, ⟨by repeat (first | (with_reducible first | exact HB.out | apply below_alloc | apply pw_below_drewN | apply below_drew1 | refine below_set ?_ GE101.out | refine below_set ?_ GE102.out) | exact HB.out)⟩⟩
    ·rw [if_neg c52] at H
     have c52b0 : (a1_1.toList == ([] : List UInt8)) = false := beq_eq_false_iff_ne.mpr c52
     have c52b1 : (a1_1.toList != ([] : List UInt8)) = true := bne_iff_ne.mpr c52
     have H' := Aside0.mk H
     clear H
     have hnb95 := NB102_101.out
     have hnc95 := NB101_102.out
     have hcz96_0 : w7.cell? ⟨gb102, 0, none⟩ = some (.int .i64 a1_0) := (blk_cell BK102.out 0).trans rfl
     have hcz96_1 : w7.cell? ⟨gb102, 1, none⟩ = some (.string a1_1) := (blk_cell BK102.out 1).trans rfl
     have hcz96_2 : w7.cell? ⟨gb102, 2, none⟩ = some (.string a1_2) := (blk_cell BK102.out 2).trans rfl
     have hcz96_3 : w7.cell? ⟨gb102, 3, none⟩ = some (.int .i64 a1_3) := (blk_cell BK102.out 3).trans rfl
     have hcz96_4 : w7.cell? ⟨gb102, 4, none⟩ = some (.int .i64 a1_4) := (blk_cell BK102.out 4).trans rfl
     have hcz96_5 : w7.cell? ⟨gb102, 5, none⟩ = some (.string a1_5) := (blk_cell BK102.out 5).trans rfl
     have hcz96_6 : w7.cell? ⟨gb102, 6, none⟩ = some (.slice A1_6 l1_6.length c1_6) := (blk_cell BK102.out 6).trans rfl
     have hcz96_7 : w7.cell? ⟨gb102, 7, none⟩ = some (.int .i64 a1_7) := (blk_cell BK102.out 7).trans rfl
     have hfz96_0 := blk_frozen BK102.out 0
     have hfz96_1 := blk_frozen BK102.out 1
     have hfz96_2 := blk_frozen BK102.out 2
     have hfz96_3 := blk_frozen BK102.out 3
     have hfz96_4 := blk_frozen BK102.out 4
     have hfz96_5 := blk_frozen BK102.out 5
     have hfz96_6 := blk_frozen BK102.out 6
     have hfz96_7 := blk_frozen BK102.out 7
     as_aux_lemma =>
      go_wp2
      go_meet
      case rel => exact ⟨_, (true), (by first | rfl | (simp; done) | (simp [*]; done)), H', ⟨by first | omega | exact Nat.le_refl _⟩, ⟨by (with_reducible repeat (first | refine blk_drewN ?_ _ | refine blk_drew ?_ | refine blk_alloc ?_ _)); exact BK101.out⟩, ⟨by (with_reducible repeat (first | refine blk_drewN ?_ _ | refine blk_drew ?_ | refine blk_alloc ?_ _)); exact BK102.out⟩, ⟨by repeat (first | (with_reducible first | exact HB.out | apply below_alloc | apply pw_below_drewN | apply below_drew1 | refine below_set ?_ GE101.out | refine below_set ?_ GE102.out) | exact HB.out)⟩⟩
  ·replace c10 := Bool.eq_false_iff.mpr c10
   subst c10
   have H1 : (prog_names_step.j0 k a2 t105 true l0_0 l0_1 l0_2 a1_0 a1_1 a1_2 a1_3 a1_4 a1_5 l1_6 a1_7) = some r := by rw [if_neg (show ¬ (false = true) by decide)] at H; exact H
   clear H
   have H := H1
   clear H1
   have H' := Aside0.mk H
   clear H
   as_aux_lemma =>
    go_wp2
    go_meet
    case rel => exact ⟨_, (true), (by first | rfl | (simp; done) | (simp [*]; done)), H', ⟨by first | omega | exact Nat.le_refl _⟩, ⟨by (with_reducible repeat (first | refine blk_drewN ?_ _ | refine blk_drew ?_ | refine blk_alloc ?_ _)); exact BK101.out⟩, ⟨by (with_reducible repeat (first | refine blk_drewN ?_ _ | refine blk_drew ?_ | refine blk_alloc ?_ _)); exact BK102.out⟩, ⟨by repeat (first | (with_reducible first | exact HB.out | apply below_alloc | apply pw_below_drewN | apply below_drew1 | refine below_set ?_ GE101.out | refine below_set ?_ GE102.out) | exact HB.out)⟩⟩
 case rest =>
  clear HC5
  try clear c1
  try clear p2
  try clear c3
  try clear c4
  try clear c5
  try clear c6
  try clear c7
  try clear c8
  try clear c9
  try clear c10
  try clear c11
  try clear c30
  try clear c30b0
  try clear c30b1
  try clear c31
  try clear c32
  try clear c35
  try clear c38
  try clear c39
  try clear c40
  try clear c43
  try clear c47
  try clear c50
  try clear c52
  try clear c52b0
  try clear c52b1
  try clear c53
  try clear c54
  try clear c55
  try clear c56
  try clear c58
  try clear c61
  try clear c62
  try clear c63
  try clear c66
  try clear c70
  try clear c73
  try clear c73b0
  try clear c73b1
  try clear c74
  try clear c75
  try clear c76
  try clear c78
  try clear c81
  try clear c82
  try clear c83
  try clear c86
  try clear c90
  try clear c93
  try clear c95
  try clear hcz36_0
  try clear hcz36_1
  try clear hcz36_2
  try clear hcz36_3
  try clear hcz36_4
  try clear hcz36_5
  try clear hcz36_6
  try clear hcz36_7
  try clear hcz41_0
  try clear hcz41_1
  try clear hcz41_2
  try clear hcz41_3
  try clear hcz41_4
  try clear hcz41_5
  try clear hcz41_6
  try clear hcz41_7
  try clear hcz44_0
  try clear hcz44_1
  try clear hcz44_2
  try clear hcz44_3
  try clear hcz44_4
  try clear hcz44_5
  try clear hcz44_6
  try clear hcz44_7
  try clear hcz46_0
  try clear hcz46_1
  try clear hcz46_2
  try clear hcz46_3
  try clear hcz46_4
  try clear hcz46_5
  try clear hcz46_6
  try clear hcz46_7
  try clear hcz48_0
  try clear hcz48_1
  try clear hcz48_2
  try clear hcz48_3
  try clear hcz48_4
  try clear hcz48_5
  try clear hcz48_6
  try clear hcz48_7
  try clear hcz51_0
  try clear hcz51_1
  try clear hcz51_2
  try clear hcz51_3
  try clear hcz51_4
  try clear hcz51_5
  try clear hcz51_6
  try clear hcz51_7
  try clear hcz57_0
  try clear hcz57_1
  try clear hcz57_2
  try clear hcz57_3
  try clear hcz57_4
  try clear hcz57_5
  try clear hcz57_6
  try clear hcz57_7
  try clear hcz59_0
  try clear hcz59_1
  try clear hcz59_2
  try clear hcz59_3
  try clear hcz59_4
  try clear hcz59_5
  try clear hcz59_6
  try clear hcz59_7
  try clear hcz64_0
  try clear hcz64_1
  try clear hcz64_2
  try clear hcz64_3
  try clear hcz64_4
  try clear hcz64_5
  try clear hcz64_6
  try clear hcz64_7
  try clear hcz67_0
  try clear hcz67_1
  try clear hcz67_2
  try clear hcz67_3
  try clear hcz67_4
  try clear hcz67_5
  try clear hcz67_6
  try clear hcz67_7
  try clear hcz69_0
  try clear hcz69_1
  try clear hcz69_2
  try clear hcz69_3
  try clear hcz69_4
  try clear hcz69_5
  try clear hcz69_6
  try clear hcz69_7
  try clear hcz71_0
  try clear hcz71_1
  try clear hcz71_2
  try clear hcz71_3
  try clear hcz71_4
  try clear hcz71_5
  try clear hcz71_6
  try clear hcz71_7
  try clear hcz77_0
  try clear hcz77_1
  try clear hcz77_2
  try clear hcz77_3
  try clear hcz77_4
  try clear hcz77_5
  try clear hcz77_6
  try clear hcz77_7
  try clear hcz79_0
  try clear hcz79_1
  try clear hcz79_2
  try clear hcz79_3
  try clear hcz79_4
  try clear hcz79_5
  try clear hcz79_6
  try clear hcz79_7
  try clear hcz84_0
  try clear hcz84_1
  try clear hcz84_2
  try clear hcz84_3
  try clear hcz84_4
  try clear hcz84_5
  try clear hcz84_6
  try clear hcz84_7
  try clear hcz87_0
  try clear hcz87_1
  try clear hcz87_2
  try clear hcz87_3
  try clear hcz87_4
  try clear hcz87_5
  try clear hcz87_6
  try clear hcz87_7
  try clear hcz89_0
  try clear hcz89_1
  try clear hcz89_2
  try clear hcz89_3
  try clear hcz89_4
  try clear hcz89_5
  try clear hcz89_6
  try clear hcz89_7
  try clear hcz91_0
  try clear hcz91_1
  try clear hcz91_2
  try clear hcz91_3
  try clear hcz91_4
  try clear hcz91_5
  try clear hcz91_6
  try clear hcz91_7
  try clear hcz94_0
  try clear hcz94_1
  try clear hcz94_2
  try clear hcz94_3
  try clear hcz94_4
  try clear hcz94_5
  try clear hcz94_6
  try clear hcz94_7
  try clear hcz96_0
  try clear hcz96_1
  try clear hcz96_2
  try clear hcz96_3
  try clear hcz96_4
  try clear hcz96_5
  try clear hcz96_6
  try clear hcz96_7
  try clear hfz34_0
  try clear hfz34_1
  try clear hfz34_2
  try clear hfz34_3
  try clear hfz34_4
  try clear hfz34_5
  try clear hfz34_6
  try clear hfz34_7
  try clear hfz36_0
  try clear hfz36_1
  try clear hfz36_2
  try clear hfz36_3
  try clear hfz36_4
  try clear hfz36_5
  try clear hfz36_6
  try clear hfz36_7
  try clear hfz41_0
  try clear hfz41_1
  try clear hfz41_2
  try clear hfz41_3
  try clear hfz41_4
  try clear hfz41_5
  try clear hfz41_6
  try clear hfz41_7
  try clear hfz44_0
  try clear hfz44_1
  try clear hfz44_2
  try clear hfz44_3
  try clear hfz44_4
  try clear hfz44_5
  try clear hfz44_6
  try clear hfz44_7
  try clear hfz46_0
  try clear hfz46_1
  try clear hfz46_2
  try clear hfz46_3
  try clear hfz46_4
  try clear hfz46_5
  try clear hfz46_6
  try clear hfz46_7
  try clear hfz48_0
  try clear hfz48_1
  try clear hfz48_2
  try clear hfz48_3
  try clear hfz48_4
  try clear hfz48_5
  try clear hfz48_6
  try clear hfz48_7
  try clear hfz51_0
  try clear hfz51_1
  try clear hfz51_2
  try clear hfz51_3
  try clear hfz51_4
  try clear hfz51_5
  try clear hfz51_6
  try clear hfz51_7
  try clear hfz57_0
  try clear hfz57_1
  try clear hfz57_2
  try clear hfz57_3
  try clear hfz57_4
  try clear hfz57_5
  try clear hfz57_6
  try clear hfz57_7
  try clear hfz59_0
  try clear hfz59_1
  try clear hfz59_2
  try clear hfz59_3
  try clear hfz59_4
  try clear hfz59_5
  try clear hfz59_6
  try clear hfz59_7
  try clear hfz64_0
  try clear hfz64_1
  try clear hfz64_2
  try clear hfz64_3
  try clear hfz64_4
  try clear hfz64_5
  try clear hfz64_6
  try clear hfz64_7
  try clear hfz67_0
  try clear hfz67_1
  try clear hfz67_2
  try clear hfz67_3
  try clear hfz67_4
  try clear hfz67_5
  try clear hfz67_6
  try clear hfz67_7
  try clear hfz69_0
  try clear hfz69_1
  try clear hfz69_2
  try clear hfz69_3
  try clear hfz69_4
  try clear hfz69_5
  try clear hfz69_6
  try clear hfz69_7
  try clear hfz71_0
  try clear hfz71_1
  try clear hfz71_2
  try clear hfz71_3
  try clear hfz71_4
  try clear hfz71_5
  try clear hfz71_6
  try clear hfz71_7
  try clear hfz77_0
  try clear hfz77_1
  try clear hfz77_2
  try clear hfz77_3
  try clear hfz77_4
  try clear hfz77_5
  try clear hfz77_6
  try clear hfz77_7
  try clear hfz79_0
  try clear hfz79_1
  try clear hfz79_2
  try clear hfz79_3
  try clear hfz79_4
  try clear hfz79_5
  try clear hfz79_6
  try clear hfz79_7
  try clear hfz84_0
  try clear hfz84_1
  try clear hfz84_2
  try clear hfz84_3
  try clear hfz84_4
  try clear hfz84_5
  try clear hfz84_6
  try clear hfz84_7
  try clear hfz87_0
  try clear hfz87_1
  try clear hfz87_2
  try clear hfz87_3
  try clear hfz87_4
  try clear hfz87_5
  try clear hfz87_6
  try clear hfz87_7
  try clear hfz89_0
  try clear hfz89_1
  try clear hfz89_2
  try clear hfz89_3
  try clear hfz89_4
  try clear hfz89_5
  try clear hfz89_6
  try clear hfz89_7
  try clear hfz91_0
  try clear hfz91_1
  try clear hfz91_2
  try clear hfz91_3
  try clear hfz91_4
  try clear hfz91_5
  try clear hfz91_6
  try clear hfz91_7
  try clear hfz94_0
  try clear hfz94_1
  try clear hfz94_2
  try clear hfz94_3
  try clear hfz94_4
  try clear hfz94_5
  try clear hfz94_6
  try clear hfz94_7
  try clear hfz96_0
  try clear hfz96_1
  try clear hfz96_2
  try clear hfz96_3
  try clear hfz96_4
  try clear hfz96_5
  try clear hfz96_6
  try clear hfz96_7
  obtain ⟨kq, x63_4, rfl, HA, HJ4, BK101, BK102, HB⟩ := hcut
  cases kq with
  | zero => exact absurd HA.out (by simp [prog_names_step.j0])
  | succ kj4 =>
   have H := HA.out
   clear HA
   simp only [prog_names_step.j0] at H
   by_cases c97 : x63_4 = true
   ·subst c97
    have H1 : (some 1) = some r := by rw [if_pos rfl] at H; exact H
    clear H
    have H := H1
    clear H1
    obtain rfl := Option.some.inj H
    as_aux_lemma =>
     go_wp2
     go_ret
     exact ⟨by first | rfl | (simp [errW_none, errW_some] <;> rfl) | (simp [*, errW_none, errW_some] <;> rfl), by repeat (first | (with_reducible first | exact HB.out | apply below_alloc | apply pw_below_drewN | apply below_drew1 | refine below_set ?_ GE101.out | refine below_set ?_ GE102.out) | exact HB.out)⟩
   ·replace c97 := Bool.eq_false_iff.mpr c97
    subst c97
    have H1 : (if a1_0 = 0 then ((slices_Contains_string_string.f kj4 l0_0 a1_1).bind fun t112 => (if t112 = true then (prog_names_step.j3 kj4 t105 l0_0 l0_1 l0_2 a1_0 a1_1 a1_2 a1_3 a1_4 a1_5 l1_6 a1_7) else (some 4))) else (if a1_0 = 3 then (prog_names_step.j1 kj4 a2 t105 a1_0 (a1_0 == 3) l0_0 l0_1 l0_2 a1_0 a1_1 a1_2 a1_3 a1_4 a1_5 l1_6 a1_7) else (if a1_0 = 4 then (prog_names_step.j1 kj4 a2 t105 a1_0 (a1_0 == 4) l0_0 l0_1 l0_2 a1_0 a1_1 a1_2 a1_3 a1_4 a1_5 l1_6 a1_7) else (prog_names_step.j1 kj4 a2 t105 a1_0 (a1_0 == 5) l0_0 l0_1 l0_2 a1_0 a1_1 a1_2 a1_3 a1_4 a1_5 l1_6 a1_7)))) = some r := by rw [if_neg (show ¬ (false = true) by decide)] at H; exact H
    clear H
    have H := H1
    clear H1
    have HC98 := Aside0.mk H
    clear H
    have hnb99 := NB102_101.out
    have hnc99 := NB101_102.out
    have hcz100_0 : wc.cell? ⟨gb102, 0, none⟩ = some (.int .i64 a1_0) := (blk_cell BK102.out 0).trans rfl
    have hcz100_1 : wc.cell? ⟨gb102, 1, none⟩ = some (.string a1_1) := (blk_cell BK102.out 1).trans rfl
    have hcz100_2 : wc.cell? ⟨gb102, 2, none⟩ = some (.string a1_2) := (blk_cell BK102.out 2).trans rfl
    have hcz100_3 : wc.cell? ⟨gb102, 3, none⟩ = some (.int .i64 a1_3) := (blk_cell BK102.out 3).trans rfl
    have hcz100_4 : wc.cell? ⟨gb102, 4, none⟩ = some (.int .i64 a1_4) := (blk_cell BK102.out 4).trans rfl
    have hcz100_5 : wc.cell? ⟨gb102, 5, none⟩ = some (.string a1_5) := (blk_cell BK102.out 5).trans rfl
    have hcz100_6 : wc.cell? ⟨gb102, 6, none⟩ = some (.slice A1_6 l1_6.length c1_6) := (blk_cell BK102.out 6).trans rfl
    have hcz100_7 : wc.cell? ⟨gb102, 7, none⟩ = some (.int .i64 a1_7) := (blk_cell BK102.out 7).trans rfl
    have hfz100_0 := blk_frozen BK102.out 0
    have hfz100_1 := blk_frozen BK102.out 1
    have hfz100_2 := blk_frozen BK102.out 2
    have hfz100_3 := blk_frozen BK102.out 3
    have hfz100_4 := blk_frozen BK102.out 4
    have hfz100_5 := blk_frozen BK102.out 5
    have hfz100_6 := blk_frozen BK102.out 6
    have hfz100_7 := blk_frozen BK102.out 7
    go_upto_block 0 with (fail)
    go_cut [] (fun wc => ∃ (kq : Nat), Aside0 (prog_names_step.j3 kq t105 l0_0 l0_1 l0_2 a1_0 a1_1 a1_2 a1_3 a1_4 a1_5 l1_6 a1_7 = some r) ∧ Aside0 (kq ≤ kj4) ∧ Aside0 (wc.heap[gb101]? = some (.cells #[(.slice A0_0 l0_0.length c0_0), (.slice A0_1 l0_1.length c0_1), (.slice A0_2 l0_2.length c0_2)] 121 (0, 0))) ∧ Aside0 (wc.heap[gb102]? = some (.cells #[.int .i64 a1_0, .string a1_1, .string a1_2, .int .i64 a1_3, .int .i64 a1_4, .string a1_5, (.slice A1_6 l1_6.length c1_6), .int .i64 a1_7] 67 (0, 0))) ∧ Aside0 (Below w.heap.size w wc))
    case first =>
     have H := HC98.out
     clear HC98
     by_cases c101 : a1_0 = 0
     ·rw [if_pos c101] at H
      have c101b0 : (a1_0 == 0) = true := beq_iff_eq.mpr c101
      have c101b1 : (a1_0 != 0) = false := bne_eq_false_iff_eq.mpr c101
      clear c101
      (first | rw [c101b0] | (simp only [i64_w, i32_w]; rw [c101b0]) | skip)
      replace H := Option.bind_eq_some_iff.mp H
      obtain ⟨t112, A1020, H⟩ := H
      replace H : (if t112 = true then (prog_names_step.j3 kj4 t105 l0_0 l0_1 l0_2 a1_0 a1_1 a1_2 a1_3 a1_4 a1_5 l1_6 a1_7) else (some 4)) = some r := H
      have A102 := Aside0.mk A1020
      clear A1020
      by_cases c103 : t112 = true
      ·subst c103
       have H1 : (prog_names_step.j3 kj4 t105 l0_0 l0_1 l0_2 a1_0 a1_1 a1_2 a1_3 a1_4 a1_5 l1_6 a1_7) = some r := by rw [if_pos rfl] at H; exact H
       clear H
       have H := H1
       clear H1
       have H' := Aside0.mk H
       clear H
       have hnb104 := NB101_102.out
       have hnc104 := NB102_101.out
       have hcz105_0 : wc.cell? ⟨gb101, 0, none⟩ = some (.slice A0_0 l0_0.length c0_0) := (blk_cell BK101.out 0).trans rfl
       have hcz105_1 : wc.cell? ⟨gb101, 1, none⟩ = some (.slice A0_1 l0_1.length c0_1) := (blk_cell BK101.out 1).trans rfl
       have hcz105_2 : wc.cell? ⟨gb101, 2, none⟩ = some (.slice A0_2 l0_2.length c0_2) := (blk_cell BK101.out 2).trans rfl
       have hfz105_0 := blk_frozen BK101.out 0
       have hfz105_1 := blk_frozen BK101.out 1
       have hfz105_2 := blk_frozen BK101.out 2
       have hcz106_0 : wc.cell? ⟨gb102, 0, none⟩ = some (.int .i64 a1_0) := (blk_cell BK102.out 0).trans rfl
       have hcz106_1 : wc.cell? ⟨gb102, 1, none⟩ = some (.string a1_1) := (blk_cell BK102.out 1).trans rfl
       have hcz106_2 : wc.cell? ⟨gb102, 2, none⟩ = some (.string a1_2) := (blk_cell BK102.out 2).trans rfl
       have hcz106_3 : wc.cell? ⟨gb102, 3, none⟩ = some (.int .i64 a1_3) := (blk_cell BK102.out 3).trans rfl
       have hcz106_4 : wc.cell? ⟨gb102, 4, none⟩ = some (.int .i64 a1_4) := (blk_cell BK102.out 4).trans rfl
       have hcz106_5 : wc.cell? ⟨gb102, 5, none⟩ = some (.string a1_5) := (blk_cell BK102.out 5).trans rfl
       have hcz106_6 : wc.cell? ⟨gb102, 6, none⟩ = some (.slice A1_6 l1_6.length c1_6) := (blk_cell BK102.out 6).trans rfl
       have hcz106_7 : wc.cell? ⟨gb102, 7, none⟩ = some (.int .i64 a1_7) := (blk_cell BK102.out 7).trans rfl
       have hfz106_0 := blk_frozen BK102.out 0
       have hfz106_1 := blk_frozen BK102.out 1
       have hfz106_2 := blk_frozen BK102.out 2
       have hfz106_3 := blk_frozen BK102.out 3
       have hfz106_4 := blk_frozen BK102.out 4
       have hfz106_5 := blk_frozen BK102.out 5
       have hfz106_6 := blk_frozen BK102.out 6
       have hfz106_7 := blk_frozen BK102.out 7
       as_aux_lemma =>
        go_wp2_with (first | ((with_reducible refine gate_callee (f := 61) rfl ?_); refine goesL_ (some 72) rfl rfl Tryd.func61 (by kernel_rfl) rfl #[.slice A0_0 l0_0.length c0_0, .string a1_1] rfl (by (try simp only [List.map_toArray, List.map_cons, List.map_nil]); first | done | rfl | (simp only [List.length_drop, List.length_take]; rfl)) ?_; (with_reducible refine (slices_Contains_string_string.calls kj4 _ _ l0_0 a1_1 true _ ?side1 ?side2 A102.out).mono ?_); (case side1 => repeat (first | exact (Kd.C_below HR0_0.out HB.out) | (with_reducible refine Kd.C_alloc ?_ _) | (with_reducible refine Kd.C_drewN ?_ _) | (with_reducible refine Kd.C_drew ?_))); (case side2 => exact HC0_0.out); rintro e w' ⟨rfl, ⟨nd, rfl⟩⟩; refine ⟨_, rfl, ?_⟩))
        go_meet
        case rel => exact ⟨_, H', ⟨by have := HJ4.out; first | omega | exact Nat.le_refl _⟩, ⟨by (with_reducible repeat (first | refine blk_drewN ?_ _ | refine blk_drew ?_ | refine blk_alloc ?_ _)); exact BK101.out⟩, ⟨by (with_reducible repeat (first | refine blk_drewN ?_ _ | refine blk_drew ?_ | refine blk_alloc ?_ _)); exact BK102.out⟩, ⟨by repeat (first | (with_reducible first | exact HB.out | apply below_alloc | apply pw_below_drewN | apply below_drew1 | refine below_set ?_ GE101.out | refine below_set ?_ GE102.out) | exact HB.out)⟩⟩
      ·replace c103 := Bool.eq_false_iff.mpr c103
       subst c103
       have H1 : (some 4) = some r := by rw [if_neg (show ¬ (false = true) by decide)] at H; exact H
       clear H
       have H := H1
       clear H1
       obtain rfl := Option.some.inj H
       have hnb107 := NB101_102.out
       have hnc107 := NB102_101.out
       have hcz108_0 : wc.cell? ⟨gb101, 0, none⟩ = some (.slice A0_0 l0_0.length c0_0) := (blk_cell BK101.out 0).trans rfl
       have hcz108_1 : wc.cell? ⟨gb101, 1, none⟩ = some (.slice A0_1 l0_1.length c0_1) := (blk_cell BK101.out 1).trans rfl
       have hcz108_2 : wc.cell? ⟨gb101, 2, none⟩ = some (.slice A0_2 l0_2.length c0_2) := (blk_cell BK101.out 2).trans rfl
       have hfz108_0 := blk_frozen BK101.out 0
       have hfz108_1 := blk_frozen BK101.out 1
       have hfz108_2 := blk_frozen BK101.out 2
       have hcz109_0 : wc.cell? ⟨gb102, 0, none⟩ = some (.int .i64 a1_0) := (blk_cell BK102.out 0).trans rfl
       have hcz109_1 : wc.cell? ⟨gb102, 1, none⟩ = some (.string a1_1) := (blk_cell BK102.out 1).trans rfl
       have hcz109_2 : wc.cell? ⟨gb102, 2, none⟩ = some (.string a1_2) := (blk_cell BK102.out 2).trans rfl
       have hcz109_3 : wc.cell? ⟨gb102, 3, none⟩ = some (.int .i64 a1_3) := (blk_cell BK102.out 3).trans rfl
       have hcz109_4 : wc.cell? ⟨gb102, 4, none⟩ = some (.int .i64 a1_4) := (blk_cell BK102.out 4).trans rfl
       have hcz109_5 : wc.cell? ⟨gb102, 5, none⟩ = some (.string a1_5) := (blk_cell BK102.out 5).trans rfl
       have hcz109_6 : wc.cell? ⟨gb102, 6, none⟩ = some (.slice A1_6 l1_6.length c1_6) := (blk_cell BK102.out 6).trans rfl
       have hcz109_7 : wc.cell? ⟨gb102, 7, none⟩ = some (.int .i64 a1_7) := (blk_cell BK102.out 7).trans rfl
       have hfz109_0 := blk_frozen BK102.out 0
       have hfz109_1 := blk_frozen BK102.out 1
       have hfz109_2 := blk_frozen BK102.out 2
       have hfz109_3 := blk_frozen BK102.out 3
       have hfz109_4 := blk_frozen BK102.out 4
       have hfz109_5 := blk_frozen BK102.out 5
       have hfz109_6 := blk_frozen BK102.out 6
       have hfz109_7 := blk_frozen BK102.out 7
       as_aux_lemma =>
        go_wp2_with (first | ((with_reducible refine gate_callee (f := 61) rfl ?_); refine goesL_ (some 72) rfl rfl Tryd.func61 (by kernel_rfl) rfl #[.slice A0_0 l0_0.length c0_0, .string a1_1] rfl (by (try simp only [List.map_toArray, List.map_cons, List.map_nil]); first | done | rfl | (simp only [List.length_drop, List.length_take]; rfl)) ?_; (with_reducible refine (slices_Contains_string_string.calls kj4 _ _ l0_0 a1_1 false _ ?side1 ?side2 A102.out).mono ?_); (case side1 => repeat (first | exact (Kd.C_below HR0_0.out HB.out) | (with_reducible refine Kd.C_alloc ?_ _) | (with_reducible refine Kd.C_drewN ?_ _) | (with_reducible refine Kd.C_drew ?_))); (case side2 => exact HC0_0.out); rintro e w' ⟨rfl, ⟨nd, rfl⟩⟩; refine ⟨_, rfl, ?_⟩))
        go_ret
        exact ⟨by first | rfl | (simp [errW_none, errW_some] <;> rfl) | (simp [*, errW_none, errW_some] <;> rfl), by repeat (first | (with_reducible first | exact HB.out | apply below_alloc | apply pw_below_drewN | apply below_drew1 | refine below_set ?_ GE101.out | refine below_set ?_ GE102.out) | exact HB.out)⟩
     ·rw [if_neg c101] at H
      have c101b0 : (a1_0 == 0) = false := beq_eq_false_iff_ne.mpr c101
      have c101b1 : (a1_0 != 0) = true := bne_iff_ne.mpr c101
      (first | rw [c101b0] | (simp only [i64_w, i32_w]; rw [c101b0]) | skip)
      have HC110 := Aside0.mk H
      clear H
      go_upto_if 74 with (fail)
      go_cut [74] (fun v74 wc => ∃ (kq : Nat) (x74_109 : Bool), v74 = .bool x74_109 ∧ Aside0 (prog_names_step.j1 kq a2 t105 a1_0 x74_109 l0_0 l0_1 l0_2 a1_0 a1_1 a1_2 a1_3 a1_4 a1_5 l1_6 a1_7 = some r) ∧ Aside0 (kq ≤ kj4) ∧ Aside0 (wc.heap[gb101]? = some (.cells #[(.slice A0_0 l0_0.length c0_0), (.slice A0_1 l0_1.length c0_1), (.slice A0_2 l0_2.length c0_2)] 121 (0, 0))) ∧ Aside0 (wc.heap[gb102]? = some (.cells #[.int .i64 a1_0, .string a1_1, .string a1_2, .int .i64 a1_3, .int .i64 a1_4, .string a1_5, (.slice A1_6 l1_6.length c1_6), .int .i64 a1_7] 67 (0, 0))) ∧ Aside0 (Below w.heap.size w wc))
      case first =>
       have H := HC110.out
       clear HC110
       by_cases c111 : a1_0 = 3
       ·rw [if_pos c111] at H
        have c111b0 : (a1_0 == 3) = true := beq_iff_eq.mpr c111
        have c111b1 : (a1_0 != 3) = false := bne_eq_false_iff_eq.mpr c111
        clear c111
        (first | rw [c111b0] | (simp only [i64_w, i32_w]; rw [c111b0]) | skip)
        have H' := Aside0.mk H
        clear H
        as_aux_lemma =>
         go_wp2
         go_meet
         case rel => exact ⟨_, ((a1_0 == 3)), (by first | rfl | (simp; done) | (simp [*]; done)), H', ⟨by have := HJ4.out; first | omega | exact Nat.le_refl _⟩, ⟨by (with_reducible repeat (first | refine blk_drewN ?_ _ | refine blk_drew ?_ | refine blk_alloc ?_ _)); exact BK101.out⟩, ⟨by (with_reducible repeat (first | refine blk_drewN ?_ _ | refine blk_drew ?_ | refine blk_alloc ?_ _)); exact BK102.out⟩, ⟨by repeat (first | (with_reducible first | exact HB.out | apply below_alloc | apply pw_below_drewN | apply below_drew1 | refine below_set ?_ GE101.out | refine below_set ?_ GE102.out) | exact HB.out)⟩⟩
       ·rw [if_neg c111] at H
        have c111b0 : (a1_0 == 3) = false := beq_eq_false_iff_ne.mpr c111
        have c111b1 : (a1_0 != 3) = true := bne_iff_ne.mpr c111
        (first | rw [c111b0] | (simp only [i64_w, i32_w]; rw [c111b0]) | skip)
        by_cases c112 : a1_0 = 4
        ·rw [if_pos c112] at H
         have c112b0 : (a1_0 == 4) = true := beq_iff_eq.mpr c112
         have c112b1 : (a1_0 != 4) = false := bne_eq_false_iff_eq.mpr c112
         clear c112
         have H' := Aside0.mk H
         clear H
         as_aux_lemma =>
          go_wp2
          go_meet
          case rel => exact ⟨_, ((a1_0 == 4)), (by first | rfl | (simp; done) | (simp [*]; done)), H', ⟨by have := HJ4.out; first | omega | exact Nat.le_refl _⟩, ⟨by (with_reducible repeat (first | refine blk_drewN ?_ _ | refine blk_drew ?_ | refine blk_alloc ?_ _)); exact BK101.out⟩, ⟨by (with_reducible repeat (first | refine blk_drewN ?_ _ | refine blk_drew ?_ | refine blk_alloc ?_ _)); exact BK102.out⟩, ⟨by repeat (first | (with_reducible first | exact HB.out | apply below_alloc | apply pw_below_drewN | apply below_drew1 | refine below_set ?_ GE101.out | refine below_set ?_ GE102.out) | exact HB.out)⟩⟩
        ·rw [if_neg c112] at H
         have c112b0 : (a1_0 == 4) = false := beq_eq_false_iff_ne.mpr c112
         have c112b1 : (a1_0 != 4) = true := bne_iff_ne.mpr c112
         have H' := Aside0.mk H
         clear H
         as_aux_lemma =>
          go_wp2
          go_meet
          case rel => exact ⟨_, ((a1_0 == 5)), (by first | rfl | (simp; done) | (simp [*]; done)), H', ⟨by have := HJ4.out; first | omega | exact Nat.le_refl _⟩, ⟨by (with_reducible repeat (first | refine blk_drewN ?_ _ | refine blk_drew ?_ | refine blk_alloc ?_ _)); exact BK101.out⟩, ⟨by (with_reducible repeat (first | refine blk_drewN ?_ _ | refine blk_drew ?_ | refine blk_alloc ?_ _)); exact BK102.out⟩, ⟨by repeat (first | (with_reducible first | exact HB.out | apply below_alloc | apply pw_below_drewN | apply below_drew1 | refine below_set ?_ GE101.out | refine below_set ?_ GE102.out) | exact HB.out)⟩⟩
      case rest =>
       clear HC110
       try clear c1
       try clear p2
       try clear c3
       try clear c4
       try clear c5
       try clear c6
       try clear c7
       try clear c8
       try clear c9
       try clear c10
       try clear c11
       try clear c30
       try clear c30b0
       try clear c30b1
       try clear c31
       try clear c32
       try clear c35
       try clear c38
       try clear c39
       try clear c40
       try clear c43
       try clear c47
       try clear c50
       try clear c52
       try clear c52b0
       try clear c52b1
       try clear c53
       try clear c54
       try clear c55
       try clear c56
       try clear c58
       try clear c61
       try clear c62
       try clear c63
       try clear c66
       try clear c70
       try clear c73
       try clear c73b0
       try clear c73b1
       try clear c74
       try clear c75
       try clear c76
       try clear c78
       try clear c81
       try clear c82
       try clear c83
       try clear c86
       try clear c90
       try clear c93
       try clear c95
       try clear c97
       try clear c99
       try clear c101
       try clear c101b0
       try clear c101b1
       try clear c103
       try clear c104
       try clear c107
       try clear c111
       try clear c111b0
       try clear c111b1
       try clear c112
       try clear c112b0
       try clear c112b1
       try clear hcz100_0
       try clear hcz100_1
       try clear hcz100_2
       try clear hcz100_3
       try clear hcz100_4
       try clear hcz100_5
       try clear hcz100_6
       try clear hcz100_7
       try clear hcz105_0
       try clear hcz105_1
       try clear hcz105_2
       try clear hcz106_0
       try clear hcz106_1
       try clear hcz106_2
       try clear hcz106_3
       try clear hcz106_4
       try clear hcz106_5
       try clear hcz106_6
       try clear hcz106_7
       try clear hcz108_0
       try clear hcz108_1
       try clear hcz108_2
       try clear hcz109_0
       try clear hcz109_1
       try clear hcz109_2
       try clear hcz109_3
       try clear hcz109_4
       try clear hcz109_5
       try clear hcz109_6
       try clear hcz109_7
       try clear hcz36_0
       try clear hcz36_1
       try clear hcz36_2
       try clear hcz36_3
       try clear hcz36_4
       try clear hcz36_5
       try clear hcz36_6
       try clear hcz36_7
       try clear hcz41_0
       try clear hcz41_1
       try clear hcz41_2
       try clear hcz41_3
       try clear hcz41_4
       try clear hcz41_5
       try clear hcz41_6
       try clear hcz41_7
       try clear hcz44_0
       try clear hcz44_1
       try clear hcz44_2
       try clear hcz44_3
       try clear hcz44_4
       try clear hcz44_5
       try clear hcz44_6
       try clear hcz44_7
       try clear hcz46_0
       try clear hcz46_1
       try clear hcz46_2
       try clear hcz46_3
       try clear hcz46_4
       try clear hcz46_5
       try clear hcz46_6
       try clear hcz46_7
       try clear hcz48_0
       try clear hcz48_1
       try clear hcz48_2
       try clear hcz48_3
       try clear hcz48_4
       try clear hcz48_5
       try clear hcz48_6
       try clear hcz48_7
       try clear hcz51_0
       try clear hcz51_1
       try clear hcz51_2
       try clear hcz51_3
       try clear hcz51_4
       try clear hcz51_5
       try clear hcz51_6
       try clear hcz51_7
       try clear hcz57_0
       try clear hcz57_1
       try clear hcz57_2
       try clear hcz57_3
       try clear hcz57_4
       try clear hcz57_5
       try clear hcz57_6
       try clear hcz57_7
       try clear hcz59_0
       try clear hcz59_1
       try clear hcz59_2
       try clear hcz59_3
       try clear hcz59_4
       try clear hcz59_5
       try clear hcz59_6
       try clear hcz59_7
       try clear hcz64_0
       try clear hcz64_1
       try clear hcz64_2
       try clear hcz64_3
       try clear hcz64_4
       try clear hcz64_5
       try clear hcz64_6
       try clear hcz64_7
       try clear hcz67_0
       try clear hcz67_1
       try clear hcz67_2
       try clear hcz67_3
       try clear hcz67_4
       try clear hcz67_5
       try clear hcz67_6
       try clear hcz67_7
       try clear hcz69_0
       try clear hcz69_1
       try clear hcz69_2
       try clear hcz69_3
       try clear hcz69_4
       try clear hcz69_5
       try clear hcz69_6
       try clear hcz69_7
       try clear hcz71_0
       try clear hcz71_1
       try clear hcz71_2
       try clear hcz71_3
       try clear hcz71_4
       try clear hcz71_5
       try clear hcz71_6
       try clear hcz71_7
       try clear hcz77_0
       try clear hcz77_1
       try clear hcz77_2
       try clear hcz77_3
       try clear hcz77_4
       try clear hcz77_5
       try clear hcz77_6
       try clear hcz77_7
       try clear hcz79_0
       try clear hcz79_1
       try clear hcz79_2
       try clear hcz79_3
       try clear hcz79_4
       try clear hcz79_5
       try clear hcz79_6
       try clear hcz79_7
       try clear hcz84_0
       try clear hcz84_1
       try clear hcz84_2
       try clear hcz84_3
       try clear hcz84_4
       try clear hcz84_5
       try clear hcz84_6
       try clear hcz84_7
       try clear hcz87_0
       try clear hcz87_1
       try clear hcz87_2
       try clear hcz87_3
       try clear hcz87_4
       try clear hcz87_5
       try clear hcz87_6
       try clear hcz87_7
       try clear hcz89_0
       try clear hcz89_1
       try clear hcz89_2
       try clear hcz89_3
       try clear hcz89_4
       try clear hcz89_5
       try clear hcz89_6
       try clear hcz89_7
       try clear hcz91_0
       try clear hcz91_1
       try clear hcz91_2
       try clear hcz91_3
       try clear hcz91_4
       try clear hcz91_5
       try clear hcz91_6
       try clear hcz91_7
       try clear hcz94_0
       try clear hcz94_1
       try clear hcz94_2
       try clear hcz94_3
       try clear hcz94_4
       try clear hcz94_5
       try clear hcz94_6
       try clear hcz94_7
       try clear hcz96_0
       try clear hcz96_1
       try clear hcz96_2
       try clear hcz96_3
       try clear hcz96_4
       try clear hcz96_5
       try clear hcz96_6
       try clear hcz96_7
       try clear hfz100_0
       try clear hfz100_1
       try clear hfz100_2
       try clear hfz100_3
       try clear hfz100_4
       try clear hfz100_5
       try clear hfz100_6
       try clear hfz100_7
       try clear hfz105_0
       try clear hfz105_1
       try clear hfz105_2
       try clear hfz106_0
       try clear hfz106_1
       try clear hfz106_2
       try clear hfz106_3
       try clear hfz106_4
       try clear hfz106_5
       try clear hfz106_6
       try clear hfz106_7
       try clear hfz108_0
       try clear hfz108_1
       try clear hfz108_2
       try clear hfz109_0
       try clear hfz109_1
       try clear hfz109_2
       try clear hfz109_3
       try clear hfz109_4
       try clear hfz109_5
       try clear hfz109_6
       try clear hfz109_7
       try clear hfz34_0
       try clear hfz34_1
       try clear hfz34_2
       try clear hfz34_3
       try clear hfz34_4
       try clear hfz34_5
       try clear hfz34_6
       try clear hfz34_7
       try clear hfz36_0
       try clear hfz36_1
       try clear hfz36_2
       try clear hfz36_3
       try clear hfz36_4
       try clear hfz36_5
       try clear hfz36_6
       try clear hfz36_7
       try clear hfz41_0
       try clear hfz41_1
       try clear hfz41_2
       try clear hfz41_3
       try clear hfz41_4
       try clear hfz41_5
       try clear hfz41_6
       try clear hfz41_7
       try clear hfz44_0
       try clear hfz44_1
       try clear hfz44_2
       try clear hfz44_3
       try clear hfz44_4
       try clear hfz44_5
       try clear hfz44_6
       try clear hfz44_7
       try clear hfz46_0
       try clear hfz46_1
       try clear hfz46_2
       try clear hfz46_3
       try clear hfz46_4
       try clear hfz46_5
       try clear hfz46_6
       try clear hfz46_7
       try clear hfz48_0
       try clear hfz48_1
       try clear hfz48_2
       try clear hfz48_3
       try clear hfz48_4
       try clear hfz48_5
       try clear hfz48_6
       try clear hfz48_7
       try clear hfz51_0
       try clear hfz51_1
       try clear hfz51_2
       try clear hfz51_3
       try clear hfz51_4
       try clear hfz51_5
       try clear hfz51_6
       try clear hfz51_7
       try clear hfz57_0
       try clear hfz57_1
       try clear hfz57_2
       try clear hfz57_3
       try clear hfz57_4
       try clear hfz57_5
       try clear hfz57_6
       try clear hfz57_7
       try clear hfz59_0
       try clear hfz59_1
       try clear hfz59_2
       try clear hfz59_3
       try clear hfz59_4
       try clear hfz59_5
       try clear hfz59_6
       try clear hfz59_7
       try clear hfz64_0
       try clear hfz64_1
       try clear hfz64_2
       try clear hfz64_3
       try clear hfz64_4
       try clear hfz64_5
       try clear hfz64_6
       try clear hfz64_7
       try clear hfz67_0
       try clear hfz67_1
       try clear hfz67_2
       try clear hfz67_3
       try clear hfz67_4
       try clear hfz67_5
       try clear hfz67_6
       try clear hfz67_7
       try clear hfz69_0
       try clear hfz69_1
       try clear hfz69_2
       try clear hfz69_3
       try clear hfz69_4
       try clear hfz69_5
       try clear hfz69_6
       try clear hfz69_7
       try clear hfz71_0
       try clear hfz71_1
       try clear hfz71_2
       try clear hfz71_3
       try clear hfz71_4
       try clear hfz71_5
       try clear hfz71_6
       try clear hfz71_7
       try clear hfz77_0
       try clear hfz77_1
       try clear hfz77_2
       try clear hfz77_3
       try clear hfz77_4
       try clear hfz77_5
       try clear hfz77_6
       try clear hfz77_7
       try clear hfz79_0
       try clear hfz79_1
       try clear hfz79_2
       try clear hfz79_3
       try clear hfz79_4
       try clear hfz79_5
       try clear hfz79_6
       try clear hfz79_7
       try clear hfz84_0
       try clear hfz84_1
       try clear hfz84_2
       try clear hfz84_3
       try clear hfz84_4
       try clear hfz84_5
       try clear hfz84_6
       try clear hfz84_7
       try clear hfz87_0
       try clear hfz87_1
       try clear hfz87_2
       try clear hfz87_3
       try clear hfz87_4
       try clear hfz87_5
       try clear hfz87_6
       try clear hfz87_7
       try clear hfz89_0
       try clear hfz89_1
       try clear hfz89_2
       try clear hfz89_3
       try clear hfz89_4
       try clear hfz89_5
       try clear hfz89_6
       try clear hfz89_7
       try clear hfz91_0
       try clear hfz91_1
       try clear hfz91_2
       try clear hfz91_3
       try clear hfz91_4
       try clear hfz91_5
       try clear hfz91_6
       try clear hfz91_7
       try clear hfz94_0
       try clear hfz94_1
       try clear hfz94_2
       try clear hfz94_3
       try clear hfz94_4
       try clear hfz94_5
       try clear hfz94_6
       try clear hfz94_7
       try clear hfz96_0
       try clear hfz96_1
       try clear hfz96_2
       try clear hfz96_3
       try clear hfz96_4
       try clear hfz96_5
       try clear hfz96_6
       try clear hfz96_7
       try clear p2
       obtain ⟨kq, x74_109, rfl, HA, HJ109, BK101, BK102, HB⟩ := hcut
       cases kq with
       | zero => exact absurd HA.out (by simp [prog_names_step.j1])
       | succ kj109 =>
        have H := HA.out
        clear HA
        simp only [prog_names_step.j1] at H
        by_cases c113 : x74_109 = true
        ·subst c113
         have H1 : ((slices_Contains_string_string.f kj109 l0_1 a1_1).bind fun t113 => (if t113 = true then (if a1_0 = 5 then ((slices_Contains_string_string.f kj109 l0_1 a1_2).bind fun t114 => (prog_names_step.j2 kj109 t105 (!t114) l0_0 l0_1 l0_2 a1_0 a1_1 a1_2 a1_3 a1_4 a1_5 l1_6 a1_7)) else (prog_names_step.j2 kj109 t105 false l0_0 l0_1 l0_2 a1_0 a1_1 a1_2 a1_3 a1_4 a1_5 l1_6 a1_7)) else (prog_names_step.j2 kj109 t105 true l0_0 l0_1 l0_2 a1_0 a1_1 a1_2 a1_3 a1_4 a1_5 l1_6 a1_7))) = some r := by rw [if_pos rfl] at H; exact H
         clear H
         have H := H1
         clear H1
         have HC114 := Aside0.mk H
         clear H
         go_upto_region 11 with (fail)
         go_cut [96] (fun v96 wc => ∃ (kq : Nat) (x96_113 : Bool), v96 = .bool x96_113 ∧ Aside0 (prog_names_step.j2 kq t105 x96_113 l0_0 l0_1 l0_2 a1_0 a1_1 a1_2 a1_3 a1_4 a1_5 l1_6 a1_7 = some r) ∧ Aside0 (kq ≤ kj109) ∧ Aside0 (wc.heap[gb101]? = some (.cells #[(.slice A0_0 l0_0.length c0_0), (.slice A0_1 l0_1.length c0_1), (.slice A0_2 l0_2.length c0_2)] 121 (0, 0))) ∧ Aside0 (wc.heap[gb102]? = some (.cells #[.int .i64 a1_0, .string a1_1, .string a1_2, .int .i64 a1_3, .int .i64 a1_4, .string a1_5, (.slice A1_6 l1_6.length c1_6), .int .i64 a1_7] 67 (0, 0))) ∧ Aside0 (Below w.heap.size w wc))
         case first =>
          have H := HC114.out
          clear HC114
          replace H := Option.bind_eq_some_iff.mp H
          obtain ⟨t113, A1150, H⟩ := H
          replace H : (if t113 = true then (if a1_0 = 5 then ((slices_Contains_string_string.f kj109 l0_1 a1_2).bind fun t114 => (prog_names_step.j2 kj109 t105 (!t114) l0_0 l0_1 l0_2 a1_0 a1_1 a1_2 a1_3 a1_4 a1_5 l1_6 a1_7)) else (prog_names_step.j2 kj109 t105 false l0_0 l0_1 l0_2 a1_0 a1_1 a1_2 a1_3 a1_4 a1_5 l1_6 a1_7)) else (prog_names_step.j2 kj109 t105 true l0_0 l0_1 l0_2 a1_0 a1_1 a1_2 a1_3 a1_4 a1_5 l1_6 a1_7)) = some r := H
          have A115 := Aside0.mk A1150
          clear A1150
          by_cases c116 : t113 = true
          ·subst c116
           have H1 : (if a1_0 = 5 then ((slices_Contains_string_string.f kj109 l0_1 a1_2).bind fun t114 => (prog_names_step.j2 kj109 t105 (!t114) l0_0 l0_1 l0_2 a1_0 a1_1 a1_2 a1_3 a1_4 a1_5 l1_6 a1_7)) else (prog_names_step.j2 kj109 t105 false l0_0 l0_1 l0_2 a1_0 a1_1 a1_2 a1_3 a1_4 a1_5 l1_6 a1_7)) = some r := by rw [if_pos rfl] at H; exact H
           clear H
           have H := H1
           clear H1
           by_cases c117 : a1_0 = 5
           ·rw [if_pos c117] at H
            have c117b0 : (a1_0 == 5) = true := beq_iff_eq.mpr c117
            have c117b1 : (a1_0 != 5) = false := bne_eq_false_iff_eq.mpr c117
            clear c117
            (first | rw [c117b0] | (simp only [i64_w, i32_w]; rw [c117b0]) | skip)
            replace H := Option.bind_eq_some_iff.mp H
            obtain ⟨t114, A1180, H⟩ := H
            replace H : (prog_names_step.j2 kj109 t105 (!t114) l0_0 l0_1 l0_2 a1_0 a1_1 a1_2 a1_3 a1_4 a1_5 l1_6 a1_7) = some r := H
            have A118 := Aside0.mk A1180
            clear A1180
            have H' := Aside0.mk H
            clear H
            have hnb119 := NB101_102.out
            have hnc119 := NB102_101.out
            have hcz120_0 : wc.cell? ⟨gb101, 0, none⟩ = some (.slice A0_0 l0_0.length c0_0) := (blk_cell BK101.out 0).trans rfl
            have hcz120_1 : wc.cell? ⟨gb101, 1, none⟩ = some (.slice A0_1 l0_1.length c0_1) := (blk_cell BK101.out 1).trans rfl
            have hcz120_2 : wc.cell? ⟨gb101, 2, none⟩ = some (.slice A0_2 l0_2.length c0_2) := (blk_cell BK101.out 2).trans rfl
            have hfz120_0 := blk_frozen BK101.out 0
            have hfz120_1 := blk_frozen BK101.out 1
            have hfz120_2 := blk_frozen BK101.out 2
            have hcz121_0 : wc.cell? ⟨gb102, 0, none⟩ = some (.int .i64 a1_0) := (blk_cell BK102.out 0).trans rfl
            have hcz121_1 : wc.cell? ⟨gb102, 1, none⟩ = some (.string a1_1) := (blk_cell BK102.out 1).trans rfl
            have hcz121_2 : wc.cell? ⟨gb102, 2, none⟩ = some (.string a1_2) := (blk_cell BK102.out 2).trans rfl
            have hcz121_3 : wc.cell? ⟨gb102, 3, none⟩ = some (.int .i64 a1_3) := (blk_cell BK102.out 3).trans rfl
            have hcz121_4 : wc.cell? ⟨gb102, 4, none⟩ = some (.int .i64 a1_4) := (blk_cell BK102.out 4).trans rfl
            have hcz121_5 : wc.cell? ⟨gb102, 5, none⟩ = some (.string a1_5) := (blk_cell BK102.out 5).trans rfl
            have hcz121_6 : wc.cell? ⟨gb102, 6, none⟩ = some (.slice A1_6 l1_6.length c1_6) := (blk_cell BK102.out 6).trans rfl
            have hcz121_7 : wc.cell? ⟨gb102, 7, none⟩ = some (.int .i64 a1_7) := (blk_cell BK102.out 7).trans rfl
            have hfz121_0 := blk_frozen BK102.out 0
            have hfz121_1 := blk_frozen BK102.out 1
            have hfz121_2 := blk_frozen BK102.out 2
            have hfz121_3 := blk_frozen BK102.out 3
            have hfz121_4 := blk_frozen BK102.out 4
            have hfz121_5 := blk_frozen BK102.out 5
            have hfz121_6 := blk_frozen BK102.out 6
            have hfz121_7 := blk_frozen BK102.out 7
            as_aux_lemma =>
             go_wp2_with (first | ((with_reducible refine gate_callee (f := 61) rfl ?_); refine goesL_ (some 82) rfl rfl Tryd.func61 (by kernel_rfl) rfl #[.slice A0_1 l0_1.length c0_1, .string a1_1] rfl (by (try simp only [List.map_toArray, List.map_cons, List.map_nil]); first | done | rfl | (simp only [List.length_drop, List.length_take]; rfl)) ?_; (with_reducible refine (slices_Contains_string_string.calls kj109 _ _ l0_1 a1_1 true _ ?side1 ?side2 A115.out).mono ?_); (case side1 => repeat (first | exact (Kd.C_below HR0_1.out HB.out) | (with_reducible refine Kd.C_alloc ?_ _) | (with_reducible refine Kd.C_drewN ?_ _) | (with_reducible refine Kd.C_drew ?_))); (case side2 => exact HC0_1.out); rintro e w' ⟨rfl, ⟨nd, rfl⟩⟩; refine ⟨_, rfl, ?_⟩) | (go_at_call 61; (with_reducible refine (slices_Contains_string_string.calls kj109 _ _ l0_1 a1_2 t114 _ ?side1 ?side2 A118.out).mono ?_); (case side1 => repeat (first | exact (Kd.C_below HR0_1.out (by repeat (first | (with_reducible first | exact HB.out | apply below_alloc | apply pw_below_drewN | apply below_drew1 | refine below_set ?_ GE101.out | refine below_set ?_ GE102.out) | exact HB.out))) | (with_reducible refine Kd.C_alloc ?_ _) | (with_reducible refine Kd.C_drewN ?_ _) | (with_reducible refine Kd.C_drew ?_))); (case side2 => exact HC0_1.out); rintro e w' ⟨rfl, ⟨nd, rfl⟩⟩))
             go_meet
             case rel => exact ⟨_, (!t114), (by first | rfl | (simp; done) | (simp [*]; done)), H', ⟨by have := HJ4.out; have := HJ109.out; first | omega | exact Nat.le_refl _⟩, ⟨by (with_reducible repeat (first | refine blk_drewN ?_ _ | refine blk_drew ?_ | refine blk_alloc ?_ _)); exact BK101.out⟩, ⟨by (with_reducible repeat (first | refine blk_drewN ?_ _ | refine blk_drew ?_ | refine blk_alloc ?_ _)); exact BK102.out⟩, ⟨by repeat (first | (with_reducible first | exact HB.out | apply below_alloc | apply pw_below_drewN | apply below_drew1 | refine below_set ?_ GE101.out | refine below_set ?_ GE102.out) | exact HB.out)⟩⟩
           ·rw [if_neg c117] at H
            have c117b0 : (a1_0 == 5) = false := beq_eq_false_iff_ne.mpr c117
            have c117b1 : (a1_0 != 5) = true := bne_iff_ne.mpr c117
            (first | rw [c117b0] | (simp only [i64_w, i32_w]; rw [c117b0]) | skip)
            have H' := Aside0.mk H
            clear H
            have hnb122 := NB101_102.out
            have hnc122 := NB102_101.out
            have hcz123_0 : wc.cell? ⟨gb101, 0, none⟩ = some (.slice A0_0 l0_0.length c0_0) := (blk_cell BK101.out 0).trans rfl
            have hcz123_1 : wc.cell? ⟨gb101, 1, none⟩ = some (.slice A0_1 l0_1.length c0_1) := (blk_cell BK101.out 1).trans rfl
            have hcz123_2 : wc.cell? ⟨gb101, 2, none⟩ = some (.slice A0_2 l0_2.length c0_2) := (blk_cell BK101.out 2).trans rfl
            have hfz123_0 := blk_frozen BK101.out 0
            have hfz123_1 := blk_frozen BK101.out 1
            have hfz123_2 := blk_frozen BK101.out 2
            have hcz124_0 : wc.cell? ⟨gb102, 0, none⟩ = some (.int .i64 a1_0) := (blk_cell BK102.out 0).trans rfl
            have hcz124_1 : wc.cell? ⟨gb102, 1, none⟩ = some (.string a1_1) := (blk_cell BK102.out 1).trans rfl
            have hcz124_2 : wc.cell? ⟨gb102, 2, none⟩ = some (.string a1_2) := (blk_cell BK102.out 2).trans rfl
            have hcz124_3 : wc.cell? ⟨gb102, 3, none⟩ = some (.int .i64 a1_3) := (blk_cell BK102.out 3).trans rfl
            have hcz124_4 : wc.cell? ⟨gb102, 4, none⟩ = some (.int .i64 a1_4) := (blk_cell BK102.out 4).trans rfl
            have hcz124_5 : wc.cell? ⟨gb102, 5, none⟩ = some (.string a1_5) := (blk_cell BK102.out 5).trans rfl
            have hcz124_6 : wc.cell? ⟨gb102, 6, none⟩ = some (.slice A1_6 l1_6.length c1_6) := (blk_cell BK102.out 6).trans rfl
            have hcz124_7 : wc.cell? ⟨gb102, 7, none⟩ = some (.int .i64 a1_7) := (blk_cell BK102.out 7).trans rfl
            have hfz124_0 := blk_frozen BK102.out 0
            have hfz124_1 := blk_frozen BK102.out 1
            have hfz124_2 := blk_frozen BK102.out 2
            have hfz124_3 := blk_frozen BK102.out 3
            have hfz124_4 := blk_frozen BK102.out 4
            have hfz124_5 := blk_frozen BK102.out 5
            have hfz124_6 := blk_frozen BK102.out 6
            have hfz124_7 := blk_frozen BK102.out 7
            as_aux_lemma =>
             go_wp2_with (first | ((with_reducible refine gate_callee (f := 61) rfl ?_); refine goesL_ (some 82) rfl rfl Tryd.func61 (by kernel_rfl) rfl #[.slice A0_1 l0_1.length c0_1, .string a1_1] rfl (by (try simp only [List.map_toArray, List.map_cons, List.map_nil]); first | done | rfl | (simp only [List.length_drop, List.length_take]; rfl)) ?_; (with_reducible refine (slices_Contains_string_string.calls kj109 _ _ l0_1 a1_1 true _ ?side1 ?side2 A115.out).mono ?_); (case side1 => repeat (first | exact (Kd.C_below HR0_1.out HB.out) | (with_reducible refine Kd.C_alloc ?_ _) | (with_reducible refine Kd.C_drewN ?_ _) | (with_reducible refine Kd.C_drew ?_))); (case side2 => exact HC0_1.out); rintro e w' ⟨rfl, ⟨nd, rfl⟩⟩; refine ⟨_, rfl, ?_⟩))
             go_meet
             case rel => exact ⟨_, (false), (by first | rfl | (simp; done) | (simp [*]; done)), H', ⟨by have := HJ4.out; have := HJ109.out; first | omega | exact Nat.le_refl _⟩, ⟨by (with_reducible repeat (first | refine blk_drewN ?_ _ | refine blk_drew ?_ | refine blk_alloc ?_ _)); exact BK101.out⟩, ⟨by (with_reducible repeat (first | refine blk_drewN ?_ _ | refine blk_drew ?_ | refine blk_alloc ?_ _)); exact BK102.out⟩, ⟨by repeat (first | (with_reducible first | exact HB.out | apply below_alloc | apply pw_below_drewN | apply below_drew1 | refine below_set ?_ GE101.out | refine below_set ?_ GE102.out) | exact HB.out)⟩⟩
          ·replace c116 := Bool.eq_false_iff.mpr c116
           subst c116
           have H1 : (prog_names_step.j2 kj109 t105 true l0_0 l0_1 l0_2 a1_0 a1_1 a1_2 a1_3 a1_4 a1_5 l1_6 a1_7) = some r := by rw [if_neg (show ¬ (false = true) by decide)] at H; exact H
           clear H
           have H := H1
           clear H1
           have H' := Aside0.mk H
           clear H
           have hnb125 := NB101_102.out
           have hnc125 := NB102_101.out
           have hcz126_0 : wc.cell? ⟨gb101, 0, none⟩ = some (.slice A0_0 l0_0.length c0_0) := (blk_cell BK101.out 0).trans rfl
           have hcz126_1 : wc.cell? ⟨gb101, 1, none⟩ = some (.slice A0_1 l0_1.length c0_1) := (blk_cell BK101.out 1).trans rfl
           have hcz126_2 : wc.cell? ⟨gb101, 2, none⟩ = some (.slice A0_2 l0_2.length c0_2) := (blk_cell BK101.out 2).trans rfl
           have hfz126_0 := blk_frozen BK101.out 0
           have hfz126_1 := blk_frozen BK101.out 1
           have hfz126_2 := blk_frozen BK101.out 2
           have hcz127_0 : wc.cell? ⟨gb102, 0, none⟩ = some (.int .i64 a1_0) := (blk_cell BK102.out 0).trans rfl
           have hcz127_1 : wc.cell? ⟨gb102, 1, none⟩ = some (.string a1_1) := (blk_cell BK102.out 1).trans rfl
           have hcz127_2 : wc.cell? ⟨gb102, 2, none⟩ = some (.string a1_2) := (blk_cell BK102.out 2).trans rfl
           have hcz127_3 : wc.cell? ⟨gb102, 3, none⟩ = some (.int .i64 a1_3) := (blk_cell BK102.out 3).trans rfl
           have hcz127_4 : wc.cell? ⟨gb102, 4, none⟩ = some (.int .i64 a1_4) := (blk_cell BK102.out 4).trans rfl
           have hcz127_5 : wc.cell? ⟨gb102, 5, none⟩ = some (.string a1_5) := (blk_cell BK102.out 5).trans rfl
           have hcz127_6 : wc.cell? ⟨gb102, 6, none⟩ = some (.slice A1_6 l1_6.length c1_6) := (blk_cell BK102.out 6).trans rfl
           have hcz127_7 : wc.cell? ⟨gb102, 7, none⟩ = some (.int .i64 a1_7) := (blk_cell BK102.out 7).trans rfl
           have hfz127_0 := blk_frozen BK102.out 0
           have hfz127_1 := blk_frozen BK102.out 1
           have hfz127_2 := blk_frozen BK102.out 2
           have hfz127_3 := blk_frozen BK102.out 3
           have hfz127_4 := blk_frozen BK102.out 4
           have hfz127_5 := blk_frozen BK102.out 5
           have hfz127_6 := blk_frozen BK102.out 6
           have hfz127_7 := blk_frozen BK102.out 7
           as_aux_lemma =>
            go_wp2_with (first | ((with_reducible refine gate_callee (f := 61) rfl ?_); refine goesL_ (some 82) rfl rfl Tryd.func61 (by kernel_rfl) rfl #[.slice A0_1 l0_1.length c0_1, .string a1_1] rfl (by (try simp only [List.map_toArray, List.map_cons, List.map_nil]); first | done | rfl | (simp only [List.length_drop, List.length_take]; rfl)) ?_; (with_reducible refine (slices_Contains_string_string.calls kj109 _ _ l0_1 a1_1 false _ ?side1 ?side2 A115.out).mono ?_); (case side1 => repeat (first | exact (Kd.C_below HR0_1.out HB.out) | (with_reducible refine Kd.C_alloc ?_ _) | (with_reducible refine Kd.C_drewN ?_ _) | (with_reducible refine Kd.C_drew ?_))); (case side2 => exact HC0_1.out); rintro e w' ⟨rfl, ⟨nd, rfl⟩⟩; refine ⟨_, rfl, ?_⟩))
            go_meet
            case rel => exact ⟨_, (true), (by first | rfl | (simp; done) | (simp [*]; done)), H', ⟨by have := HJ4.out; have := HJ109.out; first | omega | exact Nat.le_refl _⟩, ⟨by (with_reducible repeat (first | refine blk_drewN ?_ _ | refine blk_drew ?_ | refine blk_alloc ?_ _)); exact BK101.out⟩, ⟨by (with_reducible repeat (first | refine blk_drewN ?_ _ | refine blk_drew ?_ | refine blk_alloc ?_ _)); exact BK102.out⟩, ⟨by repeat (first | (with_reducible first | exact HB.out | apply below_alloc | apply pw_below_drewN | apply below_drew1 | refine below_set ?_ GE101.out | refine below_set ?_ GE102.out) | exact HB.out)⟩⟩
         case rest =>
          clear HC114
          try clear c1
          try clear p2
          try clear c3
          try clear c4
          try clear c5
          try clear c6
          try clear c7
          try clear c8
          try clear c9
          try clear c10
          try clear c11
          try clear c12
          try clear c30
          try clear c30b0
          try clear c30b1
          try clear c31
          try clear c32
          try clear c35
          try clear c38
          try clear c39
          try clear c40
          try clear c43
          try clear c47
          try clear c50
          try clear c52
          try clear c52b0
          try clear c52b1
          try clear c53
          try clear c54
          try clear c55
          try clear c56
          try clear c58
          try clear c61
          try clear c62
          try clear c63
          try clear c66
          try clear c70
          try clear c73
          try clear c73b0
          try clear c73b1
          try clear c74
          try clear c75
          try clear c76
          try clear c78
          try clear c81
          try clear c82
          try clear c83
          try clear c86
          try clear c90
          try clear c93
          try clear c95
          try clear c97
          try clear c99
          try clear c101
          try clear c101b0
          try clear c101b1
          try clear c103
          try clear c104
          try clear c107
          try clear c111
          try clear c111b0
          try clear c111b1
          try clear c112
          try clear c112b0
          try clear c112b1
          try clear c113
          try clear c116
          try clear c117
          try clear c117b0
          try clear c117b1
          try clear c119
          try clear c122
          try clear c125
          try clear hcz100_0
          try clear hcz100_1
          try clear hcz100_2
          try clear hcz100_3
          try clear hcz100_4
          try clear hcz100_5
          try clear hcz100_6
          try clear hcz100_7
          try clear hcz105_0
          try clear hcz105_1
          try clear hcz105_2
          try clear hcz106_0
          try clear hcz106_1
          try clear hcz106_2
          try clear hcz106_3
          try clear hcz106_4
          try clear hcz106_5
          try clear hcz106_6
          try clear hcz106_7
          try clear hcz108_0
          try clear hcz108_1
          try clear hcz108_2
          try clear hcz109_0
          try clear hcz109_1
          try clear hcz109_2
          try clear hcz109_3
          try clear hcz109_4
          try clear hcz109_5
          try clear hcz109_6
          try clear hcz109_7
          try clear hcz120_0
          try clear hcz120_1
          try clear hcz120_2
          try clear hcz121_0
          try clear hcz121_1
          try clear hcz121_2
          try clear hcz121_3
          try clear hcz121_4
          try clear hcz121_5
          try clear hcz121_6
          try clear hcz121_7
          try clear hcz123_0
          try clear hcz123_1
          try clear hcz123_2
          try clear hcz124_0
          try clear hcz124_1
          try clear hcz124_2
          try clear hcz124_3
          try clear hcz124_4
          try clear hcz124_5
          try clear hcz124_6
          try clear hcz124_7
          try clear hcz126_0
          try clear hcz126_1
          try clear hcz126_2
          try clear hcz127_0
          try clear hcz127_1
          try clear hcz127_2
          try clear hcz127_3
          try clear hcz127_4
          try clear hcz127_5
          try clear hcz127_6
          try clear hcz127_7
          try clear hcz36_0
          try clear hcz36_1
          try clear hcz36_2
          try clear hcz36_3
          try clear hcz36_4
          try clear hcz36_5
          try clear hcz36_6
          try clear hcz36_7
          try clear hcz41_0
          try clear hcz41_1
          try clear hcz41_2
          try clear hcz41_3
          try clear hcz41_4
          try clear hcz41_5
          try clear hcz41_6
          try clear hcz41_7
          try clear hcz44_0
          try clear hcz44_1
          try clear hcz44_2
          try clear hcz44_3
          try clear hcz44_4
          try clear hcz44_5
          try clear hcz44_6
          try clear hcz44_7
          try clear hcz46_0
          try clear hcz46_1
          try clear hcz46_2
          try clear hcz46_3
          try clear hcz46_4
          try clear hcz46_5
          try clear hcz46_6
          try clear hcz46_7
          try clear hcz48_0
          try clear hcz48_1
          try clear hcz48_2
          try clear hcz48_3
          try clear hcz48_4
          try clear hcz48_5
          try clear hcz48_6
          try clear hcz48_7
          try clear hcz51_0
          try clear hcz51_1
          try clear hcz51_2
          try clear hcz51_3
          try clear hcz51_4
          try clear hcz51_5
          try clear hcz51_6
          try clear hcz51_7
          try clear hcz57_0
          try clear hcz57_1
          try clear hcz57_2
          try clear hcz57_3
          try clear hcz57_4
          try clear hcz57_5
          try clear hcz57_6
          try clear hcz57_7
          try clear hcz59_0
          try clear hcz59_1
          try clear hcz59_2
          try clear hcz59_3
          try clear hcz59_4
          try clear hcz59_5
          try clear hcz59_6
          try clear hcz59_7
          try clear hcz64_0
          try clear hcz64_1
          try clear hcz64_2
          try clear hcz64_3
          try clear hcz64_4
          try clear hcz64_5
          try clear hcz64_6
          try clear hcz64_7
          try clear hcz67_0
          try clear hcz67_1
          try clear hcz67_2
          try clear hcz67_3
          try clear hcz67_4
          try clear hcz67_5
          try clear hcz67_6
          try clear hcz67_7
          try clear hcz69_0
          try clear hcz69_1
          try clear hcz69_2
          try clear hcz69_3
          try clear hcz69_4
          try clear hcz69_5
          try clear hcz69_6
          try clear hcz69_7
          try clear hcz71_0
          try clear hcz71_1
          try clear hcz71_2
          try clear hcz71_3
          try clear hcz71_4
          try clear hcz71_5
          try clear hcz71_6
          try clear hcz71_7
          try clear hcz77_0
          try clear hcz77_1
          try clear hcz77_2
          try clear hcz77_3
          try clear hcz77_4
          try clear hcz77_5
          try clear hcz77_6
          try clear hcz77_7
          try clear hcz79_0
          try clear hcz79_1
          try clear hcz79_2
          try clear hcz79_3
          try clear hcz79_4
          try clear hcz79_5
          try clear hcz79_6
          try clear hcz79_7
          try clear hcz84_0
          try clear hcz84_1
          try clear hcz84_2
          try clear hcz84_3
          try clear hcz84_4
          try clear hcz84_5
          try clear hcz84_6
          try clear hcz84_7
          try clear hcz87_0
          try clear hcz87_1
          try clear hcz87_2
          try clear hcz87_3
          try clear hcz87_4
          try clear hcz87_5
          try clear hcz87_6
          try clear hcz87_7
          try clear hcz89_0
          try clear hcz89_1
          try clear hcz89_2
          try clear hcz89_3
          try clear hcz89_4
          try clear hcz89_5
          try clear hcz89_6
          try clear hcz89_7
          try clear hcz91_0
          try clear hcz91_1
          try clear hcz91_2
          try clear hcz91_3
          try clear hcz91_4
          try clear hcz91_5
          try clear hcz91_6
          try clear hcz91_7
          try clear hcz94_0
          try clear hcz94_1
          try clear hcz94_2
          try clear hcz94_3
          try clear hcz94_4
          try clear hcz94_5
          try clear hcz94_6
          try clear hcz94_7
          try clear hcz96_0
          try clear hcz96_1
          try clear hcz96_2
          try clear hcz96_3
          try clear hcz96_4
          try clear hcz96_5
          try clear hcz96_6
          try clear hcz96_7
          try clear hfz100_0
          try clear hfz100_1
          try clear hfz100_2
          try clear hfz100_3
          try clear hfz100_4
          try clear hfz100_5
          try clear hfz100_6
          try clear hfz100_7
          try clear hfz105_0
          try clear hfz105_1
          try clear hfz105_2
          try clear hfz106_0
          try clear hfz106_1
          try clear hfz106_2
          try clear hfz106_3
          try clear hfz106_4
          try clear hfz106_5
          try clear hfz106_6
          try clear hfz106_7
          try clear hfz108_0
          try clear hfz108_1
          try clear hfz108_2
          try clear hfz109_0
          try clear hfz109_1
          try clear hfz109_2
          try clear hfz109_3
          try clear hfz109_4
          try clear hfz109_5
          try clear hfz109_6
          try clear hfz109_7
          try clear hfz120_0
          try clear hfz120_1
          try clear hfz120_2
          try clear hfz121_0
          try clear hfz121_1
          try clear hfz121_2
          try clear hfz121_3
          try clear hfz121_4
          try clear hfz121_5
          try clear hfz121_6
          try clear hfz121_7
          try clear hfz123_0
          try clear hfz123_1
          try clear hfz123_2
          try clear hfz124_0
          try clear hfz124_1
          try clear hfz124_2
          try clear hfz124_3
          try clear hfz124_4
          try clear hfz124_5
          try clear hfz124_6
          try clear hfz124_7
          try clear hfz126_0
          try clear hfz126_1
          try clear hfz126_2
          try clear hfz127_0
          try clear hfz127_1
          try clear hfz127_2
          try clear hfz127_3
          try clear hfz127_4
          try clear hfz127_5
          try clear hfz127_6
          try clear hfz127_7
          try clear hfz34_0
          try clear hfz34_1
          try clear hfz34_2
          try clear hfz34_3
          try clear hfz34_4
          try clear hfz34_5
          try clear hfz34_6
          try clear hfz34_7
          try clear hfz36_0
          try clear hfz36_1
          try clear hfz36_2
          try clear hfz36_3
          try clear hfz36_4
          try clear hfz36_5
          try clear hfz36_6
          try clear hfz36_7
          try clear hfz41_0
          try clear hfz41_1
          try clear hfz41_2
          try clear hfz41_3
          try clear hfz41_4
          try clear hfz41_5
          try clear hfz41_6
          try clear hfz41_7
          try clear hfz44_0
          try clear hfz44_1
          try clear hfz44_2
          try clear hfz44_3
          try clear hfz44_4
          try clear hfz44_5
          try clear hfz44_6
          try clear hfz44_7
          try clear hfz46_0
          try clear hfz46_1
          try clear hfz46_2
          try clear hfz46_3
          try clear hfz46_4
          try clear hfz46_5
          try clear hfz46_6
          try clear hfz46_7
          try clear hfz48_0
          try clear hfz48_1
          try clear hfz48_2
          try clear hfz48_3
          try clear hfz48_4
          try clear hfz48_5
          try clear hfz48_6
          try clear hfz48_7
          try clear hfz51_0
          try clear hfz51_1
          try clear hfz51_2
          try clear hfz51_3
          try clear hfz51_4
          try clear hfz51_5
          try clear hfz51_6
          try clear hfz51_7
          try clear hfz57_0
          try clear hfz57_1
          try clear hfz57_2
          try clear hfz57_3
          try clear hfz57_4
          try clear hfz57_5
          try clear hfz57_6
          try clear hfz57_7
          try clear hfz59_0
          try clear hfz59_1
          try clear hfz59_2
          try clear hfz59_3
          try clear hfz59_4
          try clear hfz59_5
          try clear hfz59_6
          try clear hfz59_7
          try clear hfz64_0
          try clear hfz64_1
          try clear hfz64_2
          try clear hfz64_3
          try clear hfz64_4
          try clear hfz64_5
          try clear hfz64_6
          try clear hfz64_7
          try clear hfz67_0
          try clear hfz67_1
          try clear hfz67_2
          try clear hfz67_3
          try clear hfz67_4
          try clear hfz67_5
          try clear hfz67_6
          try clear hfz67_7
          try clear hfz69_0
          try clear hfz69_1
          try clear hfz69_2
          try clear hfz69_3
          try clear hfz69_4
          try clear hfz69_5
          try clear hfz69_6
          try clear hfz69_7
          try clear hfz71_0
          try clear hfz71_1
          try clear hfz71_2
          try clear hfz71_3
          try clear hfz71_4
          try clear hfz71_5
          try clear hfz71_6
          try clear hfz71_7
          try clear hfz77_0
          try clear hfz77_1
          try clear hfz77_2
          try clear hfz77_3
          try clear hfz77_4
          try clear hfz77_5
          try clear hfz77_6
          try clear hfz77_7
          try clear hfz79_0
          try clear hfz79_1
          try clear hfz79_2
          try clear hfz79_3
          try clear hfz79_4
          try clear hfz79_5
          try clear hfz79_6
          try clear hfz79_7
          try clear hfz84_0
          try clear hfz84_1
          try clear hfz84_2
          try clear hfz84_3
          try clear hfz84_4
          try clear hfz84_5
          try clear hfz84_6
          try clear hfz84_7
          try clear hfz87_0
          try clear hfz87_1
          try clear hfz87_2
          try clear hfz87_3
          try clear hfz87_4
          try clear hfz87_5
          try clear hfz87_6
          try clear hfz87_7
          try clear hfz89_0
          try clear hfz89_1
          try clear hfz89_2
          try clear hfz89_3
          try clear hfz89_4
          try clear hfz89_5
          try clear hfz89_6
          try clear hfz89_7
          try clear hfz91_0
          try clear hfz91_1
          try clear hfz91_2
          try clear hfz91_3
          try clear hfz91_4
          try clear hfz91_5
          try clear hfz91_6
          try clear hfz91_7
          try clear hfz94_0
          try clear hfz94_1
          try clear hfz94_2
          try clear hfz94_3
          try clear hfz94_4
          try clear hfz94_5
          try clear hfz94_6
          try clear hfz94_7
          try clear hfz96_0
          try clear hfz96_1
          try clear hfz96_2
          try clear hfz96_3
          try clear hfz96_4
          try clear hfz96_5
          try clear hfz96_6
          try clear hfz96_7
          try clear p2
          obtain ⟨kq, x96_113, rfl, HA, HJ113, BK101, BK102, HB⟩ := hcut
          cases kq with
          | zero => exact absurd HA.out (by simp [prog_names_step.j2])
          | succ kj113 =>
           have H := HA.out
           clear HA
           simp only [prog_names_step.j2] at H
           by_cases c128 : x96_113 = true
           ·subst c128
            have H1 : (some 4) = some r := by rw [if_pos rfl] at H; exact H
            clear H
            have H := H1
            clear H1
            obtain rfl := Option.some.inj H
            as_aux_lemma =>
             go_wp2
             go_ret
             exact ⟨by first | rfl | (simp [errW_none, errW_some] <;> rfl) | (simp [*, errW_none, errW_some] <;> rfl), by repeat (first | (with_reducible first | exact HB.out | apply below_alloc | apply pw_below_drewN | apply below_drew1 | refine below_set ?_ GE101.out | refine below_set ?_ GE102.out) | exact HB.out)⟩
           ·replace c128 := Bool.eq_false_iff.mpr c128
            subst c128
            have H1 : (if a1_0 = 3 then ((lex_Name.f a1_2).bind fun t115 => (if t115 = true then (if a1_0 = 5 then (if a1_2.toList = a1_1.toList then (some 1) else (prog_names_step.j3 kj113 t105 l0_0 l0_1 l0_2 a1_0 a1_1 a1_2 a1_3 a1_4 a1_5 l1_6 a1_7)) else (prog_names_step.j3 kj113 t105 l0_0 l0_1 l0_2 a1_0 a1_1 a1_2 a1_3 a1_4 a1_5 l1_6 a1_7)) else (some 1))) else (if a1_0 = 5 then (if a1_2.toList = a1_1.toList then (some 1) else (prog_names_step.j3 kj113 t105 l0_0 l0_1 l0_2 a1_0 a1_1 a1_2 a1_3 a1_4 a1_5 l1_6 a1_7)) else (prog_names_step.j3 kj113 t105 l0_0 l0_1 l0_2 a1_0 a1_1 a1_2 a1_3 a1_4 a1_5 l1_6 a1_7))) = some r := by rw [if_neg (show ¬ (false = true) by decide)] at H; exact H
            clear H
            have H := H1
            clear H1
            by_cases c129 : a1_0 = 3
            ·rw [if_pos c129] at H
             have c129b0 : (a1_0 == 3) = true := beq_iff_eq.mpr c129
             have c129b1 : (a1_0 != 3) = false := bne_eq_false_iff_eq.mpr c129
             clear c129
             replace H := Option.bind_eq_some_iff.mp H
             obtain ⟨t115, A1300, H⟩ := H
             replace H : (if t115 = true then (if a1_0 = 5 then (if a1_2.toList = a1_1.toList then (some 1) else (prog_names_step.j3 kj113 t105 l0_0 l0_1 l0_2 a1_0 a1_1 a1_2 a1_3 a1_4 a1_5 l1_6 a1_7)) else (prog_names_step.j3 kj113 t105 l0_0 l0_1 l0_2 a1_0 a1_1 a1_2 a1_3 a1_4 a1_5 l1_6 a1_7)) else (some 1)) = some r := H
             have A130 := Aside0.mk A1300
             clear A1300
             by_cases c131 : t115 = true
             ·subst c131
              have H1 : (if a1_0 = 5 then (if a1_2.toList = a1_1.toList then (some 1) else (prog_names_step.j3 kj113 t105 l0_0 l0_1 l0_2 a1_0 a1_1 a1_2 a1_3 a1_4 a1_5 l1_6 a1_7)) else (prog_names_step.j3 kj113 t105 l0_0 l0_1 l0_2 a1_0 a1_1 a1_2 a1_3 a1_4 a1_5 l1_6 a1_7)) = some r := by rw [if_pos rfl] at H; exact H
              clear H
              have H := H1
              clear H1
              by_cases c132 : a1_0 = 5
              ·rw [if_pos c132] at H
               have c132b0 : (a1_0 == 5) = true := beq_iff_eq.mpr c132
               have c132b1 : (a1_0 != 5) = false := bne_eq_false_iff_eq.mpr c132
               clear c132
               by_cases c133 : a1_2.toList = a1_1.toList
               ·rw [if_pos c133] at H
                have c133b0 : (a1_2.toList == a1_1.toList) = true := beq_iff_eq.mpr c133
                have c133b1 : (a1_2.toList != a1_1.toList) = false := bne_eq_false_iff_eq.mpr c133
                clear c133
                obtain rfl := Option.some.inj H
                have hnb134 := NB102_101.out
                have hnc134 := NB101_102.out
                have hcz135_0 : wc.cell? ⟨gb102, 0, none⟩ = some (.int .i64 a1_0) := (blk_cell BK102.out 0).trans rfl
                have hcz135_1 : wc.cell? ⟨gb102, 1, none⟩ = some (.string a1_1) := (blk_cell BK102.out 1).trans rfl
                have hcz135_2 : wc.cell? ⟨gb102, 2, none⟩ = some (.string a1_2) := (blk_cell BK102.out 2).trans rfl
                have hcz135_3 : wc.cell? ⟨gb102, 3, none⟩ = some (.int .i64 a1_3) := (blk_cell BK102.out 3).trans rfl
                have hcz135_4 : wc.cell? ⟨gb102, 4, none⟩ = some (.int .i64 a1_4) := (blk_cell BK102.out 4).trans rfl
                have hcz135_5 : wc.cell? ⟨gb102, 5, none⟩ = some (.string a1_5) := (blk_cell BK102.out 5).trans rfl
                have hcz135_6 : wc.cell? ⟨gb102, 6, none⟩ = some (.slice A1_6 l1_6.length c1_6) := (blk_cell BK102.out 6).trans rfl
                have hcz135_7 : wc.cell? ⟨gb102, 7, none⟩ = some (.int .i64 a1_7) := (blk_cell BK102.out 7).trans rfl
                have hfz135_0 := blk_frozen BK102.out 0
                have hfz135_1 := blk_frozen BK102.out 1
                have hfz135_2 := blk_frozen BK102.out 2
                have hfz135_3 := blk_frozen BK102.out 3
                have hfz135_4 := blk_frozen BK102.out 4
                have hfz135_5 := blk_frozen BK102.out 5
                have hfz135_6 := blk_frozen BK102.out 6
                have hfz135_7 := blk_frozen BK102.out 7
                as_aux_lemma =>
                 go_wp2_with (first | (go_at_call 91; (with_reducible refine (lex_Name.calls a1_2 true _ A130.out (by first | exact HT0.out | exact UT.below HT0.out (by repeat (first | (with_reducible first | exact HB.out | apply below_alloc | apply pw_below_drewN | apply below_drew1 | refine below_set ?_ GE101.out | refine below_set ?_ GE102.out) | exact HB.out)))).mono ?_); rintro e w136 ⟨rfl, hb⟩; have n0_ := Aside0.mk (blk_below (g := gb101) (o := .cells #[.slice A0_0 l0_0.length c0_0, .slice A0_1 l0_1.length c0_1, .slice A0_2 l0_2.length c0_2] 121 (0, 0)) (by (with_reducible repeat (first | refine blk_drewN ?_ _ | refine blk_drew ?_ | refine blk_alloc ?_ _)); exact BK101.out) hb); have n1_ := Aside0.mk (blk_below (g := gb102) (o := .cells #[.int .i64 a1_0, .string a1_1, .string a1_2, .int .i64 a1_3, .int .i64 a1_4, .string a1_5, .slice A1_6 l1_6.length c1_6, .int .i64 a1_7] 67 (0, 0)) (by (with_reducible repeat (first | refine blk_drewN ?_ _ | refine blk_drew ?_ | refine blk_alloc ?_ _)); exact BK102.out) hb); have n2_ := Aside0.mk (below_step (by repeat (first | (with_reducible first | exact HB.out | apply below_alloc | apply pw_below_drewN | apply below_drew1 | refine below_set ?_ GE101.out | refine below_set ?_ GE102.out) | exact HB.out)) hb); clear BK101; clear BK102; clear HB; have BK101 := n0_; have BK102 := n1_; have HB := n2_; clear n0_ n1_ n2_; (try clear hb); (try clear hb2); (try clear hk); (try clear hi); have hcz137_0 : w136.cell? ⟨gb102, 0, none⟩ = some (.int .i64 a1_0) := (blk_cell BK102.out 0).trans rfl; have hcz137_1 : w136.cell? ⟨gb102, 1, none⟩ = some (.string a1_1) := (blk_cell BK102.out 1).trans rfl; have hcz137_2 : w136.cell? ⟨gb102, 2, none⟩ = some (.string a1_2) := (blk_cell BK102.out 2).trans rfl; have hcz137_3 : w136.cell? ⟨gb102, 3, none⟩ = some (.int .i64 a1_3) := (blk_cell BK102.out 3).trans rfl; have hcz137_4 : w136.cell? ⟨gb102, 4, none⟩ = some (.int .i64 a1_4) := (blk_cell BK102.out 4).trans rfl; have hcz137_5 : w136.cell? ⟨gb102, 5, none⟩ = some (.string a1_5) := (blk_cell BK102.out 5).trans rfl; have hcz137_6 : w136.cell? ⟨gb102, 6, none⟩ = some (.slice A1_6 l1_6.length c1_6) := (blk_cell BK102.out 6).trans rfl; have hcz137_7 : w136.cell? ⟨gb102, 7, none⟩ = some (.int .i64 a1_7) := (blk_cell BK102.out 7).trans rfl; have hfz137_0 := blk_frozen BK102.out 0; have hfz137_1 := blk_frozen BK102.out 1; have hfz137_2 := blk_frozen BK102.out 2; have hfz137_3 := blk_frozen BK102.out 3; have hfz137_4 := blk_frozen BK102.out 4; have hfz137_5 := blk_frozen BK102.out 5; have hfz137_6 := blk_frozen BK102.out 6; have hfz137_7 := blk_frozen BK102.out 7))
                 go_ret
                 exact ⟨by first | rfl | (simp [errW_none, errW_some] <;> rfl) | (simp [*, errW_none, errW_some] <;> rfl), by repeat (first | (with_reducible first | exact HB.out | apply below_alloc | apply pw_below_drewN | apply below_drew1 | refine below_set ?_ GE101.out | refine below_set ?_ GE102.out) | exact HB.out)⟩
               ·rw [if_neg c133] at H
                have c133b0 : (a1_2.toList == a1_1.toList) = false := beq_eq_false_iff_ne.mpr c133
                have c133b1 : (a1_2.toList != a1_1.toList) = true := bne_iff_ne.mpr c133
                have H' := Aside0.mk H
                clear H
                have hnb138 := NB102_101.out
                have hnc138 := NB101_102.out
                have hcz139_0 : wc.cell? ⟨gb102, 0, none⟩ = some (.int .i64 a1_0) := (blk_cell BK102.out 0).trans rfl
                have hcz139_1 : wc.cell? ⟨gb102, 1, none⟩ = some (.string a1_1) := (blk_cell BK102.out 1).trans rfl
                have hcz139_2 : wc.cell? ⟨gb102, 2, none⟩ = some (.string a1_2) := (blk_cell BK102.out 2).trans rfl
                have hcz139_3 : wc.cell? ⟨gb102, 3, none⟩ = some (.int .i64 a1_3) := (blk_cell BK102.out 3).trans rfl
                have hcz139_4 : wc.cell? ⟨gb102, 4, none⟩ = some (.int .i64 a1_4) := (blk_cell BK102.out 4).trans rfl
                have hcz139_5 : wc.cell? ⟨gb102, 5, none⟩ = some (.string a1_5) := (blk_cell BK102.out 5).trans rfl
                have hcz139_6 : wc.cell? ⟨gb102, 6, none⟩ = some (.slice A1_6 l1_6.length c1_6) := (blk_cell BK102.out 6).trans rfl
                have hcz139_7 : wc.cell? ⟨gb102, 7, none⟩ = some (.int .i64 a1_7) := (blk_cell BK102.out 7).trans rfl
                have hfz139_0 := blk_frozen BK102.out 0
                have hfz139_1 := blk_frozen BK102.out 1
                have hfz139_2 := blk_frozen BK102.out 2
                have hfz139_3 := blk_frozen BK102.out 3
                have hfz139_4 := blk_frozen BK102.out 4
                have hfz139_5 := blk_frozen BK102.out 5
                have hfz139_6 := blk_frozen BK102.out 6
                have hfz139_7 := blk_frozen BK102.out 7
                as_aux_lemma =>
                 go_wp2_with (first | (go_at_call 91; (with_reducible refine (lex_Name.calls a1_2 true _ A130.out (by first | exact HT0.out | exact UT.below HT0.out (by repeat (first | (with_reducible first | exact HB.out | apply below_alloc | apply pw_below_drewN | apply below_drew1 | refine below_set ?_ GE101.out | refine below_set ?_ GE102.out) | exact HB.out)))).mono ?_); rintro e w140 ⟨rfl, hb⟩; have n0_ := Aside0.mk (blk_below (g := gb101) (o := .cells #[.slice A0_0 l0_0.length c0_0, .slice A0_1 l0_1.length c0_1, .slice A0_2 l0_2.length c0_2] 121 (0, 0)) (by (with_reducible repeat (first | refine blk_drewN ?_ _ | refine blk_drew ?_ | refine blk_alloc ?_ _)); exact BK101.out) hb); have n1_ := Aside0.mk (blk_below (g := gb102) (o := .cells #[.int .i64 a1_0, .string a1_1, .string a1_2, .int .i64 a1_3, .int .i64 a1_4, .string a1_5, .slice A1_6 l1_6.length c1_6, .int .i64 a1_7] 67 (0, 0)) (by (with_reducible repeat (first | refine blk_drewN ?_ _ | refine blk_drew ?_ | refine blk_alloc ?_ _)); exact BK102.out) hb); have n2_ := Aside0.mk (below_step (by repeat (first | (with_reducible first | exact HB.out | apply below_alloc | apply pw_below_drewN | apply below_drew1 | refine below_set ?_ GE101.out | refine below_set ?_ GE102.out) | exact HB.out)) hb); clear BK101; clear BK102; clear HB; have BK101 := n0_; have BK102 := n1_; have HB := n2_; clear n0_ n1_ n2_; (try clear hb); (try clear hb2); (try clear hk); (try clear hi); have hcz141_0 : w140.cell? ⟨gb102, 0, none⟩ = some (.int .i64 a1_0) := (blk_cell BK102.out 0).trans rfl; have hcz141_1 : w140.cell? ⟨gb102, 1, none⟩ = some (.string a1_1) := (blk_cell BK102.out 1).trans rfl; have hcz141_2 : w140.cell? ⟨gb102, 2, none⟩ = some (.string a1_2) := (blk_cell BK102.out 2).trans rfl; have hcz141_3 : w140.cell? ⟨gb102, 3, none⟩ = some (.int .i64 a1_3) := (blk_cell BK102.out 3).trans rfl; have hcz141_4 : w140.cell? ⟨gb102, 4, none⟩ = some (.int .i64 a1_4) := (blk_cell BK102.out 4).trans rfl; have hcz141_5 : w140.cell? ⟨gb102, 5, none⟩ = some (.string a1_5) := (blk_cell BK102.out 5).trans rfl; have hcz141_6 : w140.cell? ⟨gb102, 6, none⟩ = some (.slice A1_6 l1_6.length c1_6) := (blk_cell BK102.out 6).trans rfl; have hcz141_7 : w140.cell? ⟨gb102, 7, none⟩ = some (.int .i64 a1_7) := (blk_cell BK102.out 7).trans rfl; have hfz141_0 := blk_frozen BK102.out 0; have hfz141_1 := blk_frozen BK102.out 1; have hfz141_2 := blk_frozen BK102.out 2; have hfz141_3 := blk_frozen BK102.out 3; have hfz141_4 := blk_frozen BK102.out 4; have hfz141_5 := blk_frozen BK102.out 5; have hfz141_6 := blk_frozen BK102.out 6; have hfz141_7 := blk_frozen BK102.out 7))
                 go_meet
                 case rel => exact ⟨_, H', ⟨by have := HJ4.out; have := HJ109.out; have := HJ113.out; first | omega | exact Nat.le_refl _⟩, ⟨by (with_reducible repeat (first | refine blk_drewN ?_ _ | refine blk_drew ?_ | refine blk_alloc ?_ _)); exact BK101.out⟩, ⟨by (with_reducible repeat (first | refine blk_drewN ?_ _ | refine blk_drew ?_ | refine blk_alloc ?_ _)); exact BK102.out⟩, ⟨by repeat (first | (with_reducible first | exact HB.out | apply below_alloc | apply pw_below_drewN | apply below_drew1 | refine below_set ?_ GE101.out | refine below_set ?_ GE102.out) | exact HB.out)⟩⟩
              ·rw [if_neg c132] at H
               have c132b0 : (a1_0 == 5) = false := beq_eq_false_iff_ne.mpr c132
               have c132b1 : (a1_0 != 5) = true := bne_iff_ne.mpr c132
               have H' := Aside0.mk H
               clear H
               have hnb142 := NB102_101.out
               have hnc142 := NB101_102.out
               have hcz143_0 : wc.cell? ⟨gb102, 0, none⟩ = some (.int .i64 a1_0) := (blk_cell BK102.out 0).trans rfl
               have hcz143_1 : wc.cell? ⟨gb102, 1, none⟩ = some (.string a1_1) := (blk_cell BK102.out 1).trans rfl
               have hcz143_2 : wc.cell? ⟨gb102, 2, none⟩ = some (.string a1_2) := (blk_cell BK102.out 2).trans rfl
               have hcz143_3 : wc.cell? ⟨gb102, 3, none⟩ = some (.int .i64 a1_3) := (blk_cell BK102.out 3).trans rfl
               have hcz143_4 : wc.cell? ⟨gb102, 4, none⟩ = some (.int .i64 a1_4) := (blk_cell BK102.out 4).trans rfl
               have hcz143_5 : wc.cell? ⟨gb102, 5, none⟩ = some (.string a1_5) := (blk_cell BK102.out 5).trans rfl
               have hcz143_6 : wc.cell? ⟨gb102, 6, none⟩ = some (.slice A1_6 l1_6.length c1_6) := (blk_cell BK102.out 6).trans rfl
               have hcz143_7 : wc.cell? ⟨gb102, 7, none⟩ = some (.int .i64 a1_7) := (blk_cell BK102.out 7).trans rfl
               have hfz143_0 := blk_frozen BK102.out 0
               have hfz143_1 := blk_frozen BK102.out 1
               have hfz143_2 := blk_frozen BK102.out 2
               have hfz143_3 := blk_frozen BK102.out 3
               have hfz143_4 := blk_frozen BK102.out 4
               have hfz143_5 := blk_frozen BK102.out 5
               have hfz143_6 := blk_frozen BK102.out 6
               have hfz143_7 := blk_frozen BK102.out 7
               as_aux_lemma =>
                go_wp2_with (first | (go_at_call 91; (with_reducible refine (lex_Name.calls a1_2 true _ A130.out (by first | exact HT0.out | exact UT.below HT0.out (by repeat (first | (with_reducible first | exact HB.out | apply below_alloc | apply pw_below_drewN | apply below_drew1 | refine below_set ?_ GE101.out | refine below_set ?_ GE102.out) | exact HB.out)))).mono ?_); rintro e w144 ⟨rfl, hb⟩; have n0_ := Aside0.mk (blk_below (g := gb101) (o := .cells #[.slice A0_0 l0_0.length c0_0, .slice A0_1 l0_1.length c0_1, .slice A0_2 l0_2.length c0_2] 121 (0, 0)) (by (with_reducible repeat (first | refine blk_drewN ?_ _ | refine blk_drew ?_ | refine blk_alloc ?_ _)); exact BK101.out) hb); have n1_ := Aside0.mk (blk_below (g := gb102) (o := .cells #[.int .i64 a1_0, .string a1_1, .string a1_2, .int .i64 a1_3, .int .i64 a1_4, .string a1_5, .slice A1_6 l1_6.length c1_6, .int .i64 a1_7] 67 (0, 0)) (by (with_reducible repeat (first | refine blk_drewN ?_ _ | refine blk_drew ?_ | refine blk_alloc ?_ _)); exact BK102.out) hb); have n2_ := Aside0.mk (below_step (by repeat (first | (with_reducible first | exact HB.out | apply below_alloc | apply pw_below_drewN | apply below_drew1 | refine below_set ?_ GE101.out | refine below_set ?_ GE102.out) | exact HB.out)) hb); clear BK101; clear BK102; clear HB; have BK101 := n0_; have BK102 := n1_; have HB := n2_; clear n0_ n1_ n2_; (try clear hb); (try clear hb2); (try clear hk); (try clear hi); have hcz145_0 : w144.cell? ⟨gb102, 0, none⟩ = some (.int .i64 a1_0) := (blk_cell BK102.out 0).trans rfl; have hcz145_1 : w144.cell? ⟨gb102, 1, none⟩ = some (.string a1_1) := (blk_cell BK102.out 1).trans rfl; have hcz145_2 : w144.cell? ⟨gb102, 2, none⟩ = some (.string a1_2) := (blk_cell BK102.out 2).trans rfl; have hcz145_3 : w144.cell? ⟨gb102, 3, none⟩ = some (.int .i64 a1_3) := (blk_cell BK102.out 3).trans rfl; have hcz145_4 : w144.cell? ⟨gb102, 4, none⟩ = some (.int .i64 a1_4) := (blk_cell BK102.out 4).trans rfl; have hcz145_5 : w144.cell? ⟨gb102, 5, none⟩ = some (.string a1_5) := (blk_cell BK102.out 5).trans rfl; have hcz145_6 : w144.cell? ⟨gb102, 6, none⟩ = some (.slice A1_6 l1_6.length c1_6) := (blk_cell BK102.out 6).trans rfl; have hcz145_7 : w144.cell? ⟨gb102, 7, none⟩ = some (.int .i64 a1_7) := (blk_cell BK102.out 7).trans rfl; have hfz145_0 := blk_frozen BK102.out 0; have hfz145_1 := blk_frozen BK102.out 1; have hfz145_2 := blk_frozen BK102.out 2; have hfz145_3 := blk_frozen BK102.out 3; have hfz145_4 := blk_frozen BK102.out 4; have hfz145_5 := blk_frozen BK102.out 5; have hfz145_6 := blk_frozen BK102.out 6; have hfz145_7 := blk_frozen BK102.out 7))
                go_meet
                case rel => exact ⟨_, H', ⟨by have := HJ4.out; have := HJ109.out; have := HJ113.out; first | omega | exact Nat.le_refl _⟩, ⟨by (with_reducible repeat (first | refine blk_drewN ?_ _ | refine blk_drew ?_ | refine blk_alloc ?_ _)); exact BK101.out⟩, ⟨by (with_reducible repeat (first | refine blk_drewN ?_ _ | refine blk_drew ?_ | refine blk_alloc ?_ _)); exact BK102.out⟩, ⟨by repeat (first | (with_reducible first | exact HB.out | apply below_alloc | apply pw_below_drewN | apply below_drew1 | refine below_set ?_ GE101.out | refine below_set ?_ GE102.out) | exact HB.out)⟩⟩
             ·replace c131 := Bool.eq_false_iff.mpr c131
              subst c131
              have H1 : (some 1) = some r := by rw [if_neg (show ¬ (false = true) by decide)] at H; exact H
              clear H
              have H := H1
              clear H1
              obtain rfl := Option.some.inj H
              have hnb146 := NB102_101.out
              have hnc146 := NB101_102.out
              have hcz147_0 : wc.cell? ⟨gb102, 0, none⟩ = some (.int .i64 a1_0) := (blk_cell BK102.out 0).trans rfl
              have hcz147_1 : wc.cell? ⟨gb102, 1, none⟩ = some (.string a1_1) := (blk_cell BK102.out 1).trans rfl
              have hcz147_2 : wc.cell? ⟨gb102, 2, none⟩ = some (.string a1_2) := (blk_cell BK102.out 2).trans rfl
              have hcz147_3 : wc.cell? ⟨gb102, 3, none⟩ = some (.int .i64 a1_3) := (blk_cell BK102.out 3).trans rfl
              have hcz147_4 : wc.cell? ⟨gb102, 4, none⟩ = some (.int .i64 a1_4) := (blk_cell BK102.out 4).trans rfl
              have hcz147_5 : wc.cell? ⟨gb102, 5, none⟩ = some (.string a1_5) := (blk_cell BK102.out 5).trans rfl
              have hcz147_6 : wc.cell? ⟨gb102, 6, none⟩ = some (.slice A1_6 l1_6.length c1_6) := (blk_cell BK102.out 6).trans rfl
              have hcz147_7 : wc.cell? ⟨gb102, 7, none⟩ = some (.int .i64 a1_7) := (blk_cell BK102.out 7).trans rfl
              have hfz147_0 := blk_frozen BK102.out 0
              have hfz147_1 := blk_frozen BK102.out 1
              have hfz147_2 := blk_frozen BK102.out 2
              have hfz147_3 := blk_frozen BK102.out 3
              have hfz147_4 := blk_frozen BK102.out 4
              have hfz147_5 := blk_frozen BK102.out 5
              have hfz147_6 := blk_frozen BK102.out 6
              have hfz147_7 := blk_frozen BK102.out 7
              as_aux_lemma =>
               go_wp2_with (first | (go_at_call 91; (with_reducible refine (lex_Name.calls a1_2 false _ A130.out (by first | exact HT0.out | exact UT.below HT0.out (by repeat (first | (with_reducible first | exact HB.out | apply below_alloc | apply pw_below_drewN | apply below_drew1 | refine below_set ?_ GE101.out | refine below_set ?_ GE102.out) | exact HB.out)))).mono ?_); rintro e w148 ⟨rfl, hb⟩; have n0_ := Aside0.mk (blk_below (g := gb101) (o := .cells #[.slice A0_0 l0_0.length c0_0, .slice A0_1 l0_1.length c0_1, .slice A0_2 l0_2.length c0_2] 121 (0, 0)) (by (with_reducible repeat (first | refine blk_drewN ?_ _ | refine blk_drew ?_ | refine blk_alloc ?_ _)); exact BK101.out) hb); have n1_ := Aside0.mk (blk_below (g := gb102) (o := .cells #[.int .i64 a1_0, .string a1_1, .string a1_2, .int .i64 a1_3, .int .i64 a1_4, .string a1_5, .slice A1_6 l1_6.length c1_6, .int .i64 a1_7] 67 (0, 0)) (by (with_reducible repeat (first | refine blk_drewN ?_ _ | refine blk_drew ?_ | refine blk_alloc ?_ _)); exact BK102.out) hb); have n2_ := Aside0.mk (below_step (by repeat (first | (with_reducible first | exact HB.out | apply below_alloc | apply pw_below_drewN | apply below_drew1 | refine below_set ?_ GE101.out | refine below_set ?_ GE102.out) | exact HB.out)) hb); clear BK101; clear BK102; clear HB; have BK101 := n0_; have BK102 := n1_; have HB := n2_; clear n0_ n1_ n2_; (try clear hb); (try clear hb2); (try clear hk); (try clear hi)))
               go_ret
               exact ⟨by first | rfl | (simp [errW_none, errW_some] <;> rfl) | (simp [*, errW_none, errW_some] <;> rfl), by repeat (first | (with_reducible first | exact HB.out | apply below_alloc | apply pw_below_drewN | apply below_drew1 | refine below_set ?_ GE101.out | refine below_set ?_ GE102.out) | exact HB.out)⟩
            ·rw [if_neg c129] at H
             have c129b0 : (a1_0 == 3) = false := beq_eq_false_iff_ne.mpr c129
             have c129b1 : (a1_0 != 3) = true := bne_iff_ne.mpr c129
             by_cases c149 : a1_0 = 5
             ·rw [if_pos c149] at H
              have c149b0 : (a1_0 == 5) = true := beq_iff_eq.mpr c149
              have c149b1 : (a1_0 != 5) = false := bne_eq_false_iff_eq.mpr c149
              clear c149
              by_cases c150 : a1_2.toList = a1_1.toList
              ·rw [if_pos c150] at H
               have c150b0 : (a1_2.toList == a1_1.toList) = true := beq_iff_eq.mpr c150
               have c150b1 : (a1_2.toList != a1_1.toList) = false := bne_eq_false_iff_eq.mpr c150
               clear c150
               obtain rfl := Option.some.inj H
               have hnb151 := NB102_101.out
               have hnc151 := NB101_102.out
               have hcz152_0 : wc.cell? ⟨gb102, 0, none⟩ = some (.int .i64 a1_0) := (blk_cell BK102.out 0).trans rfl
               have hcz152_1 : wc.cell? ⟨gb102, 1, none⟩ = some (.string a1_1) := (blk_cell BK102.out 1).trans rfl
               have hcz152_2 : wc.cell? ⟨gb102, 2, none⟩ = some (.string a1_2) := (blk_cell BK102.out 2).trans rfl
               have hcz152_3 : wc.cell? ⟨gb102, 3, none⟩ = some (.int .i64 a1_3) := (blk_cell BK102.out 3).trans rfl
               have hcz152_4 : wc.cell? ⟨gb102, 4, none⟩ = some (.int .i64 a1_4) := (blk_cell BK102.out 4).trans rfl
               have hcz152_5 : wc.cell? ⟨gb102, 5, none⟩ = some (.string a1_5) := (blk_cell BK102.out 5).trans rfl
               have hcz152_6 : wc.cell? ⟨gb102, 6, none⟩ = some (.slice A1_6 l1_6.length c1_6) := (blk_cell BK102.out 6).trans rfl
               have hcz152_7 : wc.cell? ⟨gb102, 7, none⟩ = some (.int .i64 a1_7) := (blk_cell BK102.out 7).trans rfl
               have hfz152_0 := blk_frozen BK102.out 0
               have hfz152_1 := blk_frozen BK102.out 1
               have hfz152_2 := blk_frozen BK102.out 2
               have hfz152_3 := blk_frozen BK102.out 3
               have hfz152_4 := blk_frozen BK102.out 4
               have hfz152_5 := blk_frozen BK102.out 5
               have hfz152_6 := blk_frozen BK102.out 6
               have hfz152_7 := blk_frozen BK102.out 7
               as_aux_lemma =>
                go_wp2
                go_ret
                exact ⟨by first | rfl | (simp [errW_none, errW_some] <;> rfl) | (simp [*, errW_none, errW_some] <;> rfl), by repeat (first | (with_reducible first | exact HB.out | apply below_alloc | apply pw_below_drewN | apply below_drew1 | refine below_set ?_ GE101.out | refine below_set ?_ GE102.out) | exact HB.out)⟩
              ·rw [if_neg c150] at H
               have c150b0 : (a1_2.toList == a1_1.toList) = false := beq_eq_false_iff_ne.mpr c150
               have c150b1 : (a1_2.toList != a1_1.toList) = true := bne_iff_ne.mpr c150
               have H' := Aside0.mk H
               clear H
               have hnb153 := NB102_101.out
               have hnc153 := NB101_102.out
               have hcz154_0 : wc.cell? ⟨gb102, 0, none⟩ = some (.int .i64 a1_0) := (blk_cell BK102.out 0).trans rfl
               have hcz154_1 : wc.cell? ⟨gb102, 1, none⟩ = some (.string a1_1) := (blk_cell BK102.out 1).trans rfl
               have hcz154_2 : wc.cell? ⟨gb102, 2, none⟩ = some (.string a1_2) := (blk_cell BK102.out 2).trans rfl
               have hcz154_3 : wc.cell? ⟨gb102, 3, none⟩ = some (.int .i64 a1_3) := (blk_cell BK102.out 3).trans rfl
               have hcz154_4 : wc.cell? ⟨gb102, 4, none⟩ = some (.int .i64 a1_4) := (blk_cell BK102.out 4).trans rfl
               have hcz154_5 : wc.cell? ⟨gb102, 5, none⟩ = some (.string a1_5) := (blk_cell BK102.out 5).trans rfl
               have hcz154_6 : wc.cell? ⟨gb102, 6, none⟩ = some (.slice A1_6 l1_6.length c1_6) := (blk_cell BK102.out 6).trans rfl
               have hcz154_7 : wc.cell? ⟨gb102, 7, none⟩ = some (.int .i64 a1_7) := (blk_cell BK102.out 7).trans rfl
               have hfz154_0 := blk_frozen BK102.out 0
               have hfz154_1 := blk_frozen BK102.out 1
               have hfz154_2 := blk_frozen BK102.out 2
               have hfz154_3 := blk_frozen BK102.out 3
               have hfz154_4 := blk_frozen BK102.out 4
               have hfz154_5 := blk_frozen BK102.out 5
               have hfz154_6 := blk_frozen BK102.out 6
               have hfz154_7 := blk_frozen BK102.out 7
               as_aux_lemma =>
                go_wp2
                go_meet
                case rel => exact ⟨_, H', ⟨by have := HJ4.out; have := HJ109.out; have := HJ113.out; first | omega | exact Nat.le_refl _⟩, ⟨by (with_reducible repeat (first | refine blk_drewN ?_ _ | refine blk_drew ?_ | refine blk_alloc ?_ _)); exact BK101.out⟩, ⟨by (with_reducible repeat (first | refine blk_drewN ?_ _ | refine blk_drew ?_ | refine blk_alloc ?_ _)); exact BK102.out⟩, ⟨by repeat (first | (with_reducible first | exact HB.out | apply below_alloc | apply pw_below_drewN | apply below_drew1 | refine below_set ?_ GE101.out | refine below_set ?_ GE102.out) | exact HB.out)⟩⟩
             ·rw [if_neg c149] at H
              have c149b0 : (a1_0 == 5) = false := beq_eq_false_iff_ne.mpr c149
              have c149b1 : (a1_0 != 5) = true := bne_iff_ne.mpr c149
              have H' := Aside0.mk H
              clear H
              have hnb155 := NB102_101.out
              have hnc155 := NB101_102.out
              have hcz156_0 : wc.cell? ⟨gb102, 0, none⟩ = some (.int .i64 a1_0) := (blk_cell BK102.out 0).trans rfl
              have hcz156_1 : wc.cell? ⟨gb102, 1, none⟩ = some (.string a1_1) := (blk_cell BK102.out 1).trans rfl
              have hcz156_2 : wc.cell? ⟨gb102, 2, none⟩ = some (.string a1_2) := (blk_cell BK102.out 2).trans rfl
              have hcz156_3 : wc.cell? ⟨gb102, 3, none⟩ = some (.int .i64 a1_3) := (blk_cell BK102.out 3).trans rfl
              have hcz156_4 : wc.cell? ⟨gb102, 4, none⟩ = some (.int .i64 a1_4) := (blk_cell BK102.out 4).trans rfl
              have hcz156_5 : wc.cell? ⟨gb102, 5, none⟩ = some (.string a1_5) := (blk_cell BK102.out 5).trans rfl
              have hcz156_6 : wc.cell? ⟨gb102, 6, none⟩ = some (.slice A1_6 l1_6.length c1_6) := (blk_cell BK102.out 6).trans rfl
              have hcz156_7 : wc.cell? ⟨gb102, 7, none⟩ = some (.int .i64 a1_7) := (blk_cell BK102.out 7).trans rfl
              have hfz156_0 := blk_frozen BK102.out 0
              have hfz156_1 := blk_frozen BK102.out 1
              have hfz156_2 := blk_frozen BK102.out 2
              have hfz156_3 := blk_frozen BK102.out 3
              have hfz156_4 := blk_frozen BK102.out 4
              have hfz156_5 := blk_frozen BK102.out 5
              have hfz156_6 := blk_frozen BK102.out 6
              have hfz156_7 := blk_frozen BK102.out 7
              as_aux_lemma =>
               go_wp2
               go_meet
               case rel => exact ⟨_, H', ⟨by have := HJ4.out; have := HJ109.out; have := HJ113.out; first | omega | exact Nat.le_refl _⟩, ⟨by (with_reducible repeat (first | refine blk_drewN ?_ _ | refine blk_drew ?_ | refine blk_alloc ?_ _)); exact BK101.out⟩, ⟨by (with_reducible repeat (first | refine blk_drewN ?_ _ | refine blk_drew ?_ | refine blk_alloc ?_ _)); exact BK102.out⟩, ⟨by repeat (first | (with_reducible first | exact HB.out | apply below_alloc | apply pw_below_drewN | apply below_drew1 | refine below_set ?_ GE101.out | refine below_set ?_ GE102.out) | exact HB.out)⟩⟩
        ·replace c113 := Bool.eq_false_iff.mpr c113
         subst c113
         have H1 : (if a1_0 = 7 then ((lex_Quote.f a1_1).bind fun bt116 => (if bt116.2 = true then (prog_names_step.j3 kj109 t105 l0_0 l0_1 l0_2 a1_0 a1_1 a1_2 a1_3 a1_4 a1_5 l1_6 a1_7) else (some 1))) else (if a1_0 = 6 then (if a1_7 < 0 then (some 1) else (if a1_7 > a2 then (some 1) else (prog_names_step.j3 kj109 t105 l0_0 l0_1 l0_2 a1_0 a1_1 a1_2 a1_3 a1_4 a1_5 l1_6 a1_7))) else (prog_names_step.j3 kj109 t105 l0_0 l0_1 l0_2 a1_0 a1_1 a1_2 a1_3 a1_4 a1_5 l1_6 a1_7))) = some r := by rw [if_neg (show ¬ (false = true) by decide)] at H; exact H
         clear H
         have H := H1
         clear H1
         by_cases c157 : a1_0 = 7
         ·rw [if_pos c157] at H
          have c157b0 : (a1_0 == 7) = true := beq_iff_eq.mpr c157
          have c157b1 : (a1_0 != 7) = false := bne_eq_false_iff_eq.mpr c157
          clear c157
          replace H := Option.bind_eq_some_iff.mp H
          obtain ⟨⟨t116, t117⟩, A1580, H⟩ := H
          replace H : (if t117 = true then (prog_names_step.j3 kj109 t105 l0_0 l0_1 l0_2 a1_0 a1_1 a1_2 a1_3 a1_4 a1_5 l1_6 a1_7) else (some 1)) = some r := H
          have A158 := Aside0.mk A1580
          clear A1580
          by_cases c159 : t117 = true
          ·subst c159
           have H1 : (prog_names_step.j3 kj109 t105 l0_0 l0_1 l0_2 a1_0 a1_1 a1_2 a1_3 a1_4 a1_5 l1_6 a1_7) = some r := by rw [if_pos rfl] at H; exact H
           clear H
           have H := H1
           clear H1
           have H' := Aside0.mk H
           clear H
           have hnb160 := NB102_101.out
           have hnc160 := NB101_102.out
           have hcz161_0 : wc.cell? ⟨gb102, 0, none⟩ = some (.int .i64 a1_0) := (blk_cell BK102.out 0).trans rfl
           have hcz161_1 : wc.cell? ⟨gb102, 1, none⟩ = some (.string a1_1) := (blk_cell BK102.out 1).trans rfl
           have hcz161_2 : wc.cell? ⟨gb102, 2, none⟩ = some (.string a1_2) := (blk_cell BK102.out 2).trans rfl
           have hcz161_3 : wc.cell? ⟨gb102, 3, none⟩ = some (.int .i64 a1_3) := (blk_cell BK102.out 3).trans rfl
           have hcz161_4 : wc.cell? ⟨gb102, 4, none⟩ = some (.int .i64 a1_4) := (blk_cell BK102.out 4).trans rfl
           have hcz161_5 : wc.cell? ⟨gb102, 5, none⟩ = some (.string a1_5) := (blk_cell BK102.out 5).trans rfl
           have hcz161_6 : wc.cell? ⟨gb102, 6, none⟩ = some (.slice A1_6 l1_6.length c1_6) := (blk_cell BK102.out 6).trans rfl
           have hcz161_7 : wc.cell? ⟨gb102, 7, none⟩ = some (.int .i64 a1_7) := (blk_cell BK102.out 7).trans rfl
           have hfz161_0 := blk_frozen BK102.out 0
           have hfz161_1 := blk_frozen BK102.out 1
           have hfz161_2 := blk_frozen BK102.out 2
           have hfz161_3 := blk_frozen BK102.out 3
           have hfz161_4 := blk_frozen BK102.out 4
           have hfz161_5 := blk_frozen BK102.out 5
           have hfz161_6 := blk_frozen BK102.out 6
           have hfz161_7 := blk_frozen BK102.out 7
           as_aux_lemma =>
            go_wp2_with (first | ((with_reducible refine gate_callee (f := 105) rfl ?_); refine goesL_ (some 123) rfl rfl Tryd.func105 (by kernel_rfl) rfl #[.string a1_1] rfl (by (try simp only [List.map_toArray, List.map_cons, List.map_nil]); first | done | rfl | (simp only [List.length_drop, List.length_take]; rfl)) ?_; (with_reducible refine (lex_Quote.calls a1_1 t116 true _ A158.out (by first | exact HT0.out | exact UT.below HT0.out (by repeat (first | (with_reducible first | exact HB.out | apply below_alloc | apply pw_below_drewN | apply below_drew1 | refine below_set ?_ GE101.out | refine below_set ?_ GE102.out) | exact HB.out)))).mono ?_); rintro e w162 ⟨rfl, hb⟩; refine ⟨_, rfl, ?_⟩; have n0_ := Aside0.mk (blk_below (g := gb101) (o := .cells #[.slice A0_0 l0_0.length c0_0, .slice A0_1 l0_1.length c0_1, .slice A0_2 l0_2.length c0_2] 121 (0, 0)) (by (with_reducible repeat (first | refine blk_drewN ?_ _ | refine blk_drew ?_ | refine blk_alloc ?_ _)); exact BK101.out) hb); have n1_ := Aside0.mk (blk_below (g := gb102) (o := .cells #[.int .i64 a1_0, .string a1_1, .string a1_2, .int .i64 a1_3, .int .i64 a1_4, .string a1_5, .slice A1_6 l1_6.length c1_6, .int .i64 a1_7] 67 (0, 0)) (by (with_reducible repeat (first | refine blk_drewN ?_ _ | refine blk_drew ?_ | refine blk_alloc ?_ _)); exact BK102.out) hb); have n2_ := Aside0.mk (below_step (by repeat (first | (with_reducible first | exact HB.out | apply below_alloc | apply pw_below_drewN | apply below_drew1 | refine below_set ?_ GE101.out | refine below_set ?_ GE102.out) | exact HB.out)) hb); clear BK101; clear BK102; clear HB; have BK101 := n0_; have BK102 := n1_; have HB := n2_; clear n0_ n1_ n2_; (try clear hb); (try clear hb2); (try clear hk); (try clear hi)))
            go_meet
            case rel => exact ⟨_, H', ⟨by have := HJ4.out; have := HJ109.out; first | omega | exact Nat.le_refl _⟩, ⟨by (with_reducible repeat (first | refine blk_drewN ?_ _ | refine blk_drew ?_ | refine blk_alloc ?_ _)); exact BK101.out⟩, ⟨by (with_reducible repeat (first | refine blk_drewN ?_ _ | refine blk_drew ?_ | refine blk_alloc ?_ _)); exact BK102.out⟩, ⟨by repeat (first | (with_reducible first | exact HB.out | apply below_alloc | apply pw_below_drewN | apply below_drew1 | refine below_set ?_ GE101.out | refine below_set ?_ GE102.out) | exact HB.out)⟩⟩
          ·replace c159 := Bool.eq_false_iff.mpr c159
           subst c159
           have H1 : (some 1) = some r := by rw [if_neg (show ¬ (false = true) by decide)] at H; exact H
           clear H
           have H := H1
           clear H1
           obtain rfl := Option.some.inj H
           have hnb163 := NB102_101.out
           have hnc163 := NB101_102.out
           have hcz164_0 : wc.cell? ⟨gb102, 0, none⟩ = some (.int .i64 a1_0) := (blk_cell BK102.out 0).trans rfl
           have hcz164_1 : wc.cell? ⟨gb102, 1, none⟩ = some (.string a1_1) := (blk_cell BK102.out 1).trans rfl
           have hcz164_2 : wc.cell? ⟨gb102, 2, none⟩ = some (.string a1_2) := (blk_cell BK102.out 2).trans rfl
           have hcz164_3 : wc.cell? ⟨gb102, 3, none⟩ = some (.int .i64 a1_3) := (blk_cell BK102.out 3).trans rfl
           have hcz164_4 : wc.cell? ⟨gb102, 4, none⟩ = some (.int .i64 a1_4) := (blk_cell BK102.out 4).trans rfl
           have hcz164_5 : wc.cell? ⟨gb102, 5, none⟩ = some (.string a1_5) := (blk_cell BK102.out 5).trans rfl
           have hcz164_6 : wc.cell? ⟨gb102, 6, none⟩ = some (.slice A1_6 l1_6.length c1_6) := (blk_cell BK102.out 6).trans rfl
           have hcz164_7 : wc.cell? ⟨gb102, 7, none⟩ = some (.int .i64 a1_7) := (blk_cell BK102.out 7).trans rfl
           have hfz164_0 := blk_frozen BK102.out 0
           have hfz164_1 := blk_frozen BK102.out 1
           have hfz164_2 := blk_frozen BK102.out 2
           have hfz164_3 := blk_frozen BK102.out 3
           have hfz164_4 := blk_frozen BK102.out 4
           have hfz164_5 := blk_frozen BK102.out 5
           have hfz164_6 := blk_frozen BK102.out 6
           have hfz164_7 := blk_frozen BK102.out 7
           as_aux_lemma =>
            go_wp2_with (first | ((with_reducible refine gate_callee (f := 105) rfl ?_); refine goesL_ (some 123) rfl rfl Tryd.func105 (by kernel_rfl) rfl #[.string a1_1] rfl (by (try simp only [List.map_toArray, List.map_cons, List.map_nil]); first | done | rfl | (simp only [List.length_drop, List.length_take]; rfl)) ?_; (with_reducible refine (lex_Quote.calls a1_1 t116 false _ A158.out (by first | exact HT0.out | exact UT.below HT0.out (by repeat (first | (with_reducible first | exact HB.out | apply below_alloc | apply pw_below_drewN | apply below_drew1 | refine below_set ?_ GE101.out | refine below_set ?_ GE102.out) | exact HB.out)))).mono ?_); rintro e w165 ⟨rfl, hb⟩; refine ⟨_, rfl, ?_⟩; have n0_ := Aside0.mk (blk_below (g := gb101) (o := .cells #[.slice A0_0 l0_0.length c0_0, .slice A0_1 l0_1.length c0_1, .slice A0_2 l0_2.length c0_2] 121 (0, 0)) (by (with_reducible repeat (first | refine blk_drewN ?_ _ | refine blk_drew ?_ | refine blk_alloc ?_ _)); exact BK101.out) hb); have n1_ := Aside0.mk (blk_below (g := gb102) (o := .cells #[.int .i64 a1_0, .string a1_1, .string a1_2, .int .i64 a1_3, .int .i64 a1_4, .string a1_5, .slice A1_6 l1_6.length c1_6, .int .i64 a1_7] 67 (0, 0)) (by (with_reducible repeat (first | refine blk_drewN ?_ _ | refine blk_drew ?_ | refine blk_alloc ?_ _)); exact BK102.out) hb); have n2_ := Aside0.mk (below_step (by repeat (first | (with_reducible first | exact HB.out | apply below_alloc | apply pw_below_drewN | apply below_drew1 | refine below_set ?_ GE101.out | refine below_set ?_ GE102.out) | exact HB.out)) hb); clear BK101; clear BK102; clear HB; have BK101 := n0_; have BK102 := n1_; have HB := n2_; clear n0_ n1_ n2_; (try clear hb); (try clear hb2); (try clear hk); (try clear hi)))
            go_ret
            exact ⟨by first | rfl | (simp [errW_none, errW_some] <;> rfl) | (simp [*, errW_none, errW_some] <;> rfl), by repeat (first | (with_reducible first | exact HB.out | apply below_alloc | apply pw_below_drewN | apply below_drew1 | refine below_set ?_ GE101.out | refine below_set ?_ GE102.out) | exact HB.out)⟩
         ·rw [if_neg c157] at H
          have c157b0 : (a1_0 == 7) = false := beq_eq_false_iff_ne.mpr c157
          have c157b1 : (a1_0 != 7) = true := bne_iff_ne.mpr c157
          by_cases c166 : a1_0 = 6
          ·rw [if_pos c166] at H
           have c166b0 : (a1_0 == 6) = true := beq_iff_eq.mpr c166
           have c166b1 : (a1_0 != 6) = false := bne_eq_false_iff_eq.mpr c166
           clear c166
           by_cases c167 : a1_7 < 0
           ·rw [if_pos c167] at H
            have c167b0 : decide (a1_7 < 0) = true := decide_eq_true c167
            clear c167
            obtain rfl := Option.some.inj H
            have hnb168 := NB102_101.out
            have hnc168 := NB101_102.out
            have hcz169_0 : wc.cell? ⟨gb102, 0, none⟩ = some (.int .i64 a1_0) := (blk_cell BK102.out 0).trans rfl
            have hcz169_1 : wc.cell? ⟨gb102, 1, none⟩ = some (.string a1_1) := (blk_cell BK102.out 1).trans rfl
            have hcz169_2 : wc.cell? ⟨gb102, 2, none⟩ = some (.string a1_2) := (blk_cell BK102.out 2).trans rfl
            have hcz169_3 : wc.cell? ⟨gb102, 3, none⟩ = some (.int .i64 a1_3) := (blk_cell BK102.out 3).trans rfl
            have hcz169_4 : wc.cell? ⟨gb102, 4, none⟩ = some (.int .i64 a1_4) := (blk_cell BK102.out 4).trans rfl
            have hcz169_5 : wc.cell? ⟨gb102, 5, none⟩ = some (.string a1_5) := (blk_cell BK102.out 5).trans rfl
            have hcz169_6 : wc.cell? ⟨gb102, 6, none⟩ = some (.slice A1_6 l1_6.length c1_6) := (blk_cell BK102.out 6).trans rfl
            have hcz169_7 : wc.cell? ⟨gb102, 7, none⟩ = some (.int .i64 a1_7) := (blk_cell BK102.out 7).trans rfl
            have hfz169_0 := blk_frozen BK102.out 0
            have hfz169_1 := blk_frozen BK102.out 1
            have hfz169_2 := blk_frozen BK102.out 2
            have hfz169_3 := blk_frozen BK102.out 3
            have hfz169_4 := blk_frozen BK102.out 4
            have hfz169_5 := blk_frozen BK102.out 5
            have hfz169_6 := blk_frozen BK102.out 6
            have hfz169_7 := blk_frozen BK102.out 7
            as_aux_lemma =>
             go_wp2
             go_ret
             exact ⟨by first | rfl | (simp [errW_none, errW_some] <;> rfl) | (simp [*, errW_none, errW_some] <;> rfl), by repeat (first | (with_reducible first | exact HB.out | apply below_alloc | apply pw_below_drewN | apply below_drew1 | refine below_set ?_ GE101.out | refine below_set ?_ GE102.out) | exact HB.out)⟩
           ·rw [if_neg c167] at H
            have c167b0 : decide (a1_7 < 0) = false := decide_eq_false c167
            clear c167
            by_cases c170 : a1_7 > a2
            ·rw [if_pos c170] at H
             have c170b0 : decide (a2 < a1_7) = true := decide_eq_true c170
             clear c170
             obtain rfl := Option.some.inj H
             have hnb171 := NB102_101.out
             have hnc171 := NB101_102.out
             have hcz172_0 : wc.cell? ⟨gb102, 0, none⟩ = some (.int .i64 a1_0) := (blk_cell BK102.out 0).trans rfl
             have hcz172_1 : wc.cell? ⟨gb102, 1, none⟩ = some (.string a1_1) := (blk_cell BK102.out 1).trans rfl
             have hcz172_2 : wc.cell? ⟨gb102, 2, none⟩ = some (.string a1_2) := (blk_cell BK102.out 2).trans rfl
             have hcz172_3 : wc.cell? ⟨gb102, 3, none⟩ = some (.int .i64 a1_3) := (blk_cell BK102.out 3).trans rfl
             have hcz172_4 : wc.cell? ⟨gb102, 4, none⟩ = some (.int .i64 a1_4) := (blk_cell BK102.out 4).trans rfl
             have hcz172_5 : wc.cell? ⟨gb102, 5, none⟩ = some (.string a1_5) := (blk_cell BK102.out 5).trans rfl
             have hcz172_6 : wc.cell? ⟨gb102, 6, none⟩ = some (.slice A1_6 l1_6.length c1_6) := (blk_cell BK102.out 6).trans rfl
             have hcz172_7 : wc.cell? ⟨gb102, 7, none⟩ = some (.int .i64 a1_7) := (blk_cell BK102.out 7).trans rfl
             have hfz172_0 := blk_frozen BK102.out 0
             have hfz172_1 := blk_frozen BK102.out 1
             have hfz172_2 := blk_frozen BK102.out 2
             have hfz172_3 := blk_frozen BK102.out 3
             have hfz172_4 := blk_frozen BK102.out 4
             have hfz172_5 := blk_frozen BK102.out 5
             have hfz172_6 := blk_frozen BK102.out 6
             have hfz172_7 := blk_frozen BK102.out 7
             as_aux_lemma =>
              go_wp2
              go_ret
              exact ⟨by first | rfl | (simp [errW_none, errW_some] <;> rfl) | (simp [*, errW_none, errW_some] <;> rfl), by repeat (first | (with_reducible first | exact HB.out | apply below_alloc | apply pw_below_drewN | apply below_drew1 | refine below_set ?_ GE101.out | refine below_set ?_ GE102.out) | exact HB.out)⟩
            ·rw [if_neg c170] at H
             have c170b0 : decide (a2 < a1_7) = false := decide_eq_false c170
             clear c170
             have H' := Aside0.mk H
             clear H
             have hnb173 := NB102_101.out
             have hnc173 := NB101_102.out
             have hcz174_0 : wc.cell? ⟨gb102, 0, none⟩ = some (.int .i64 a1_0) := (blk_cell BK102.out 0).trans rfl
             have hcz174_1 : wc.cell? ⟨gb102, 1, none⟩ = some (.string a1_1) := (blk_cell BK102.out 1).trans rfl
             have hcz174_2 : wc.cell? ⟨gb102, 2, none⟩ = some (.string a1_2) := (blk_cell BK102.out 2).trans rfl
             have hcz174_3 : wc.cell? ⟨gb102, 3, none⟩ = some (.int .i64 a1_3) := (blk_cell BK102.out 3).trans rfl
             have hcz174_4 : wc.cell? ⟨gb102, 4, none⟩ = some (.int .i64 a1_4) := (blk_cell BK102.out 4).trans rfl
             have hcz174_5 : wc.cell? ⟨gb102, 5, none⟩ = some (.string a1_5) := (blk_cell BK102.out 5).trans rfl
             have hcz174_6 : wc.cell? ⟨gb102, 6, none⟩ = some (.slice A1_6 l1_6.length c1_6) := (blk_cell BK102.out 6).trans rfl
             have hcz174_7 : wc.cell? ⟨gb102, 7, none⟩ = some (.int .i64 a1_7) := (blk_cell BK102.out 7).trans rfl
             have hfz174_0 := blk_frozen BK102.out 0
             have hfz174_1 := blk_frozen BK102.out 1
             have hfz174_2 := blk_frozen BK102.out 2
             have hfz174_3 := blk_frozen BK102.out 3
             have hfz174_4 := blk_frozen BK102.out 4
             have hfz174_5 := blk_frozen BK102.out 5
             have hfz174_6 := blk_frozen BK102.out 6
             have hfz174_7 := blk_frozen BK102.out 7
             as_aux_lemma =>
              go_wp2
              go_meet
              case rel => exact ⟨_, H', ⟨by have := HJ4.out; have := HJ109.out; first | omega | exact Nat.le_refl _⟩, ⟨by (with_reducible repeat (first | refine blk_drewN ?_ _ | refine blk_drew ?_ | refine blk_alloc ?_ _)); exact BK101.out⟩, ⟨by (with_reducible repeat (first | refine blk_drewN ?_ _ | refine blk_drew ?_ | refine blk_alloc ?_ _)); exact BK102.out⟩, ⟨by repeat (first | (with_reducible first | exact HB.out | apply below_alloc | apply pw_below_drewN | apply below_drew1 | refine below_set ?_ GE101.out | refine below_set ?_ GE102.out) | exact HB.out)⟩⟩
          ·rw [if_neg c166] at H
           have c166b0 : (a1_0 == 6) = false := beq_eq_false_iff_ne.mpr c166
           have c166b1 : (a1_0 != 6) = true := bne_iff_ne.mpr c166
           have H' := Aside0.mk H
           clear H
           as_aux_lemma =>
            go_wp2
            go_meet
            case rel => exact ⟨_, H', ⟨by have := HJ4.out; have := HJ109.out; first | omega | exact Nat.le_refl _⟩, ⟨by (with_reducible repeat (first | refine blk_drewN ?_ _ | refine blk_drew ?_ | refine blk_alloc ?_ _)); exact BK101.out⟩, ⟨by (with_reducible repeat (first | refine blk_drewN ?_ _ | refine blk_drew ?_ | refine blk_alloc ?_ _)); exact BK102.out⟩, ⟨by repeat (first | (with_reducible first | exact HB.out | apply below_alloc | apply pw_below_drewN | apply below_drew1 | refine below_set ?_ GE101.out | refine below_set ?_ GE102.out) | exact HB.out)⟩⟩
    case rest =>
     clear HC98
     try clear c1
     try clear p2
     try clear c10
     try clear c11
     try clear c12
     try clear c13
     try clear c14
     try clear c15
     try clear c16
     try clear c17
     try clear c105
     try clear c113
     try clear c128
     try clear c129
     try clear c129b0
     try clear c129b1
     try clear c131
     try clear c132
     try clear c132b0
     try clear c132b1
     try clear c133
     try clear c133b0
     try clear c133b1
     try clear c134
     try clear c138
     try clear c142
     try clear c146
     try clear c149
     try clear c149b0
     try clear c149b1
     try clear c150
     try clear c150b0
     try clear c150b1
     try clear c151
     try clear c153
     try clear c155
     try clear c157
     try clear c157b0
     try clear c157b1
     try clear c159
     try clear c160
     try clear c163
     try clear c166
     try clear c166b0
     try clear c166b1
     try clear c167
     try clear c167b0
     try clear c168
     try clear c170
     try clear c170b0
     try clear c171
     try clear c173
     try clear hcz135_0
     try clear hcz135_1
     try clear hcz135_2
     try clear hcz135_3
     try clear hcz135_4
     try clear hcz135_5
     try clear hcz135_6
     try clear hcz135_7
     try clear hcz137_0
     try clear hcz137_1
     try clear hcz137_2
     try clear hcz137_3
     try clear hcz137_4
     try clear hcz137_5
     try clear hcz137_6
     try clear hcz137_7
     try clear hcz139_0
     try clear hcz139_1
     try clear hcz139_2
     try clear hcz139_3
     try clear hcz139_4
     try clear hcz139_5
     try clear hcz139_6
     try clear hcz139_7
     try clear hcz141_0
     try clear hcz141_1
     try clear hcz141_2
     try clear hcz141_3
     try clear hcz141_4
     try clear hcz141_5
     try clear hcz141_6
     try clear hcz141_7
     try clear hcz143_0
     try clear hcz143_1
     try clear hcz143_2
     try clear hcz143_3
     try clear hcz143_4
     try clear hcz143_5
     try clear hcz143_6
     try clear hcz143_7
     try clear hcz145_0
     try clear hcz145_1
     try clear hcz145_2
     try clear hcz145_3
     try clear hcz145_4
     try clear hcz145_5
     try clear hcz145_6
     try clear hcz145_7
     try clear hcz147_0
     try clear hcz147_1
     try clear hcz147_2
     try clear hcz147_3
     try clear hcz147_4
     try clear hcz147_5
     try clear hcz147_6
     try clear hcz147_7
     try clear hcz152_0
     try clear hcz152_1
     try clear hcz152_2
     try clear hcz152_3
     try clear hcz152_4
     try clear hcz152_5
     try clear hcz152_6
     try clear hcz152_7
     try clear hcz154_0
     try clear hcz154_1
     try clear hcz154_2
     try clear hcz154_3
     try clear hcz154_4
     try clear hcz154_5
     try clear hcz154_6
     try clear hcz154_7
     try clear hcz156_0
     try clear hcz156_1
     try clear hcz156_2
     try clear hcz156_3
     try clear hcz156_4
     try clear hcz156_5
     try clear hcz156_6
     try clear hcz156_7
     try clear hcz161_0
     try clear hcz161_1
     try clear hcz161_2
     try clear hcz161_3
     try clear hcz161_4
     try clear hcz161_5
     try clear hcz161_6
     try clear hcz161_7
     try clear hcz164_0
     try clear hcz164_1
     try clear hcz164_2
     try clear hcz164_3
     try clear hcz164_4
     try clear hcz164_5
     try clear hcz164_6
     try clear hcz164_7
     try clear hcz169_0
     try clear hcz169_1
     try clear hcz169_2
     try clear hcz169_3
     try clear hcz169_4
     try clear hcz169_5
     try clear hcz169_6
     try clear hcz169_7
     try clear hcz172_0
     try clear hcz172_1
     try clear hcz172_2
     try clear hcz172_3
     try clear hcz172_4
     try clear hcz172_5
     try clear hcz172_6
     try clear hcz172_7
     try clear hcz174_0
     try clear hcz174_1
     try clear hcz174_2
     try clear hcz174_3
     try clear hcz174_4
     try clear hcz174_5
     try clear hcz174_6
     try clear hcz174_7
     try clear hfz123_1
     try clear hfz123_2
     try clear hfz124_0
     try clear hfz124_1
     try clear hfz124_2
     try clear hfz124_3
     try clear hfz124_4
     try clear hfz124_5
     try clear hfz124_6
     try clear hfz124_7
     try clear hfz126_0
     try clear hfz126_1
     try clear hfz126_2
     try clear hfz127_0
     try clear hfz127_1
     try clear hfz127_2
     try clear hfz127_3
     try clear hfz127_4
     try clear hfz127_5
     try clear hfz127_6
     try clear hfz127_7
     try clear hfz135_0
     try clear hfz135_1
     try clear hfz135_2
     try clear hfz135_3
     try clear hfz135_4
     try clear hfz135_5
     try clear hfz135_6
     try clear hfz135_7
     try clear hfz137_0
     try clear hfz137_1
     try clear hfz137_2
     try clear hfz137_3
     try clear hfz137_4
     try clear hfz137_5
     try clear hfz137_6
     try clear hfz137_7
     try clear hfz139_0
     try clear hfz139_1
     try clear hfz139_2
     try clear hfz139_3
     try clear hfz139_4
     try clear hfz139_5
     try clear hfz139_6
     try clear hfz139_7
     try clear hfz141_0
     try clear hfz141_1
     try clear hfz141_2
     try clear hfz141_3
     try clear hfz141_4
     try clear hfz141_5
     try clear hfz141_6
     try clear hfz141_7
     try clear hfz143_0
     try clear hfz143_1
     try clear hfz143_2
     try clear hfz143_3
     try clear hfz143_4
     try clear hfz143_5
     try clear hfz143_6
     try clear hfz143_7
     try clear hfz145_0
     try clear hfz145_1
     try clear hfz145_2
     try clear hfz145_3
     try clear hfz145_4
     try clear hfz145_5
     try clear hfz145_6
     try clear hfz145_7
     try clear hfz147_0
     try clear hfz147_1
     try clear hfz147_2
     try clear hfz147_3
     try clear hfz147_4
     try clear hfz147_5
     try clear hfz147_6
     try clear hfz147_7
     try clear hfz152_0
     try clear hfz152_1
     try clear hfz152_2
     try clear hfz152_3
     try clear hfz152_4
     try clear hfz152_5
     try clear hfz152_6
     try clear hfz152_7
     try clear hfz154_0
     try clear hfz154_1
     try clear hfz154_2
     try clear hfz154_3
     try clear hfz154_4
     try clear hfz154_5
     try clear hfz154_6
     try clear hfz154_7
     try clear hfz156_0
     try clear hfz156_1
     try clear hfz156_2
     try clear hfz156_3
     try clear hfz156_4
     try clear hfz156_5
     try clear hfz156_6
     try clear hfz156_7
     try clear hfz161_0
     try clear hfz161_1
     try clear hfz161_2
     try clear hfz161_3
     try clear hfz161_4
     try clear hfz161_5
     try clear hfz161_6
     try clear hfz161_7
     try clear hfz164_0
     try clear hfz164_1
     try clear hfz164_2
     try clear hfz164_3
     try clear hfz164_4
     try clear hfz164_5
     try clear hfz164_6
     try clear hfz164_7
     try clear hfz169_0
     try clear hfz169_1
     try clear hfz169_2
     try clear hfz169_3
     try clear hfz169_4
     try clear hfz169_5
     try clear hfz169_6
     try clear hfz169_7
     try clear hfz172_0
     try clear hfz172_1
     try clear hfz172_2
     try clear hfz172_3
     try clear hfz172_4
     try clear hfz172_5
     try clear hfz172_6
     try clear hfz172_7
     try clear hfz174_0
     try clear hfz174_1
     try clear hfz174_2
     try clear hfz174_3
     try clear hfz174_4
     try clear hfz174_5
     try clear hfz174_6
     try clear hfz174_7
     try clear hfz34_0
     try clear hfz34_1
     try clear hfz34_2
     try clear hfz34_3
     try clear hfz34_4
     try clear hfz34_5
     try clear hfz34_6
     try clear hfz34_7
     try clear hfz36_0
     try clear hfz36_1
     try clear hfz36_2
     try clear hfz36_3
     try clear hfz36_4
     try clear hfz36_5
     try clear hfz36_6
     try clear hfz36_7
     try clear hfz41_0
     try clear hfz41_1
     try clear hfz41_2
     try clear hfz41_3
     try clear hfz41_4
     try clear hfz41_5
     try clear hfz41_6
     try clear hfz41_7
     try clear hfz44_0
     try clear hfz44_1
     try clear hfz44_2
     try clear hfz44_3
     try clear hfz44_4
     try clear hfz44_5
     try clear hfz44_6
     try clear hfz44_7
     try clear hfz46_0
     try clear hfz46_1
     try clear hfz46_2
     try clear hfz46_3
     try clear hfz46_4
     try clear hfz46_5
     try clear hfz46_6
     try clear hfz46_7
     try clear hfz48_0
     try clear hfz48_1
     try clear hfz48_2
     try clear hfz48_3
     try clear hfz48_4
     try clear hfz48_5
     try clear hfz48_6
     try clear hfz48_7
     try clear hfz51_0
     try clear hfz51_1
     try clear hfz51_2
     try clear hfz51_3
     try clear hfz51_4
     try clear hfz51_5
     try clear hfz51_6
     try clear hfz51_7
     try clear hfz57_0
     try clear hfz57_1
     try clear hfz57_2
     try clear hfz57_3
     try clear hfz57_4
     try clear hfz57_5
     try clear hfz57_6
     try clear hfz57_7
     try clear hfz59_0
     try clear hfz59_1
     try clear hfz59_2
     try clear hfz59_3
     try clear hfz59_4
     try clear hfz59_5
     try clear hfz59_6
     try clear hfz59_7
     try clear hfz64_0
     try clear hfz64_1
     try clear hfz64_2
     try clear hfz64_3
     try clear hfz64_4
     try clear hfz64_5
     try clear hfz64_6
     try clear hfz64_7
     try clear hfz67_0
     try clear hfz67_1
     try clear hfz67_2
     try clear hfz67_3
     try clear hfz67_4
     try clear hfz67_5
     try clear hfz67_6
     try clear hfz67_7
     try clear hfz69_0
     try clear hfz69_1
     try clear hfz69_2
     try clear hfz69_3
     try clear hfz69_4
     try clear hfz69_5
     try clear hfz69_6
     try clear hfz69_7
     try clear hfz71_0
     try clear hfz71_1
     try clear hfz71_2
     try clear hfz71_3
     try clear hfz71_4
     try clear hfz71_5
     try clear hfz71_6
     try clear hfz71_7
     try clear hfz77_0
     try clear hfz77_1
     try clear hfz77_2
     try clear hfz77_3
     try clear hfz77_4
     try clear hfz77_5
     try clear hfz77_6
     try clear hfz77_7
     try clear hfz79_0
     try clear hfz79_1
     try clear hfz79_2
     try clear hfz79_3
     try clear hfz79_4
     try clear hfz79_5
     try clear hfz79_6
     try clear hfz79_7
     try clear hfz84_0
     try clear hfz84_1
     try clear hfz84_2
     try clear hfz84_3
     try clear hfz84_4
     try clear hfz84_5
     try clear hfz84_6
     try clear hfz84_7
     try clear hfz87_0
     try clear hfz87_1
     try clear hfz87_2
     try clear hfz87_3
     try clear hfz87_4
     try clear hfz87_5
     try clear hfz87_6
     try clear hfz87_7
     try clear hfz89_0
     try clear hfz89_1
     try clear hfz89_2
     try clear hfz89_3
     try clear hfz89_4
     try clear hfz89_5
     try clear hfz89_6
     try clear hfz89_7
     try clear hfz91_0
     try clear hfz91_1
     try clear hfz91_2
     try clear hfz91_3
     try clear hfz91_4
     try clear hfz91_5
     try clear hfz91_6
     try clear hfz91_7
     try clear hfz94_0
     try clear hfz94_1
     try clear hfz94_2
     try clear hfz94_3
     try clear hfz94_4
     try clear hfz94_5
     try clear hfz94_6
     try clear hfz94_7
     try clear hfz96_0
     try clear hfz96_1
     try clear hfz96_2
     try clear hfz96_3
     try clear hfz96_4
     try clear hfz96_5
     try clear hfz96_6
     try clear hfz96_7
     try clear p2
     obtain ⟨kq, HA, HJ97, BK101, BK102, HB⟩ := hcut
     cases kq with
     | zero => exact absurd HA.out (by simp [prog_names_step.j3])
     | succ kj97 =>
      have H := HA.out
      clear HA
      simp only [prog_names_step.j3] at H
      by_cases c175 : t105 = true
      ·subst c175
       have H1 : ((expr_May.f kj97 a1_3 a1_4 a1_5 l1_6).bind fun t118 => (if t118 = true then ((expr_Names.f kj97 a1_3 a1_4 a1_5 l1_6).bind fun t119 => (prog_names_step.l0 kj97 t119 (t119.length : Int) 0 l0_0 l0_1 l0_2)) else (some 1))) = some r := by rw [if_pos rfl] at H; exact H
       clear H
       have H := H1
       clear H1
       replace H := Option.bind_eq_some_iff.mp H
       obtain ⟨t118, A1760, H⟩ := H
       replace H : (if t118 = true then ((expr_Names.f kj97 a1_3 a1_4 a1_5 l1_6).bind fun t119 => (prog_names_step.l0 kj97 t119 (t119.length : Int) 0 l0_0 l0_1 l0_2)) else (some 1)) = some r := H
       have A176 := Aside0.mk A1760
       clear A1760
       by_cases c177 : t118 = true
       ·subst c177
        have H1 : ((expr_Names.f kj97 a1_3 a1_4 a1_5 l1_6).bind fun t119 => (prog_names_step.l0 kj97 t119 (t119.length : Int) 0 l0_0 l0_1 l0_2)) = some r := by rw [if_pos rfl] at H; exact H
        clear H
        have H := H1
        clear H1
        replace H := Option.bind_eq_some_iff.mp H
        obtain ⟨t119, A1780, H⟩ := H
        replace H : (prog_names_step.l0 kj97 t119 (t119.length : Int) 0 l0_0 l0_1 l0_2) = some r := H
        have A178 := Aside0.mk A1780
        clear A1780
        have H' := Aside0.mk H
        clear H
        have hnb179 := NB102_101.out
        have hnc179 := NB101_102.out
        have hcz180_0 : wc.cell? ⟨gb102, 0, none⟩ = some (.int .i64 a1_0) := (blk_cell BK102.out 0).trans rfl
        have hcz180_1 : wc.cell? ⟨gb102, 1, none⟩ = some (.string a1_1) := (blk_cell BK102.out 1).trans rfl
        have hcz180_2 : wc.cell? ⟨gb102, 2, none⟩ = some (.string a1_2) := (blk_cell BK102.out 2).trans rfl
        have hcz180_3 : wc.cell? ⟨gb102, 3, none⟩ = some (.int .i64 a1_3) := (blk_cell BK102.out 3).trans rfl
        have hcz180_4 : wc.cell? ⟨gb102, 4, none⟩ = some (.int .i64 a1_4) := (blk_cell BK102.out 4).trans rfl
        have hcz180_5 : wc.cell? ⟨gb102, 5, none⟩ = some (.string a1_5) := (blk_cell BK102.out 5).trans rfl
        have hcz180_6 : wc.cell? ⟨gb102, 6, none⟩ = some (.slice A1_6 l1_6.length c1_6) := (blk_cell BK102.out 6).trans rfl
        have hcz180_7 : wc.cell? ⟨gb102, 7, none⟩ = some (.int .i64 a1_7) := (blk_cell BK102.out 7).trans rfl
        have hfz180_0 := blk_frozen BK102.out 0
        have hfz180_1 := blk_frozen BK102.out 1
        have hfz180_2 := blk_frozen BK102.out 2
        have hfz180_3 := blk_frozen BK102.out 3
        have hfz180_4 := blk_frozen BK102.out 4
        have hfz180_5 := blk_frozen BK102.out 5
        have hfz180_6 := blk_frozen BK102.out 6
        have hfz180_7 := blk_frozen BK102.out 7
        go_wp2_with (first | ((with_reducible refine gate_callee (f := 29) rfl ?_); refine goesL_ (some 143) rfl rfl Tryd.func29 (by kernel_rfl) rfl #[.agg #[.int .i64 a1_3, .int .i64 a1_4, .string a1_5, .slice A1_6 l1_6.length c1_6]] rfl (by (try simp only [List.map_toArray, List.map_cons, List.map_nil]); first | done | rfl | (simp only [List.length_drop, List.length_take]; rfl)) ?_; (with_reducible refine (expr_May.calls kj97 a1_3 a1_4 a1_5 _ _ l1_6 true _ ?side1 ?side2 A176.out (by first | exact HT0.out | exact UT.below HT0.out (by repeat (first | (with_reducible first | exact HB.out | apply below_alloc | apply pw_below_drewN | apply below_drew1 | refine below_set ?_ GE101.out | refine below_set ?_ GE102.out) | exact HB.out)))).mono ?_); (case side1 => repeat (first | exact (Kd.C_below HR1_6.out HB.out) | (with_reducible refine Kd.C_alloc ?_ _) | (with_reducible refine Kd.C_drewN ?_ _) | (with_reducible refine Kd.C_drew ?_))); (case side2 => exact HC1_6.out); rintro e w181 ⟨rfl, hb⟩; refine ⟨_, rfl, ?_⟩; have n0_ := Aside0.mk (blk_below (g := gb101) (o := .cells #[.slice A0_0 l0_0.length c0_0, .slice A0_1 l0_1.length c0_1, .slice A0_2 l0_2.length c0_2] 121 (0, 0)) (by (with_reducible repeat (first | refine blk_drewN ?_ _ | refine blk_drew ?_ | refine blk_alloc ?_ _)); exact BK101.out) hb); have n1_ := Aside0.mk (blk_below (g := gb102) (o := .cells #[.int .i64 a1_0, .string a1_1, .string a1_2, .int .i64 a1_3, .int .i64 a1_4, .string a1_5, .slice A1_6 l1_6.length c1_6, .int .i64 a1_7] 67 (0, 0)) (by (with_reducible repeat (first | refine blk_drewN ?_ _ | refine blk_drew ?_ | refine blk_alloc ?_ _)); exact BK102.out) hb); have n2_ := Aside0.mk (below_step (by repeat (first | (with_reducible first | exact HB.out | apply below_alloc | apply pw_below_drewN | apply below_drew1 | refine below_set ?_ GE101.out | refine below_set ?_ GE102.out) | exact HB.out)) hb); clear BK101; clear BK102; clear HB; have BK101 := n0_; have BK102 := n1_; have HB := n2_; clear n0_ n1_ n2_; (try clear hb); (try clear hb2); (try clear hk); (try clear hi); have hcz182_0 : w181.cell? ⟨gb102, 0, none⟩ = some (.int .i64 a1_0) := (blk_cell BK102.out 0).trans rfl; have hcz182_1 : w181.cell? ⟨gb102, 1, none⟩ = some (.string a1_1) := (blk_cell BK102.out 1).trans rfl; have hcz182_2 : w181.cell? ⟨gb102, 2, none⟩ = some (.string a1_2) := (blk_cell BK102.out 2).trans rfl; have hcz182_3 : w181.cell? ⟨gb102, 3, none⟩ = some (.int .i64 a1_3) := (blk_cell BK102.out 3).trans rfl; have hcz182_4 : w181.cell? ⟨gb102, 4, none⟩ = some (.int .i64 a1_4) := (blk_cell BK102.out 4).trans rfl; have hcz182_5 : w181.cell? ⟨gb102, 5, none⟩ = some (.string a1_5) := (blk_cell BK102.out 5).trans rfl; have hcz182_6 : w181.cell? ⟨gb102, 6, none⟩ = some (.slice A1_6 l1_6.length c1_6) := (blk_cell BK102.out 6).trans rfl; have hcz182_7 : w181.cell? ⟨gb102, 7, none⟩ = some (.int .i64 a1_7) := (blk_cell BK102.out 7).trans rfl; have hfz182_0 := blk_frozen BK102.out 0; have hfz182_1 := blk_frozen BK102.out 1; have hfz182_2 := blk_frozen BK102.out 2; have hfz182_3 := blk_frozen BK102.out 3; have hfz182_4 := blk_frozen BK102.out 4; have hfz182_5 := blk_frozen BK102.out 5; have hfz182_6 := blk_frozen BK102.out 6; have hfz182_7 := blk_frozen BK102.out 7) | ((with_reducible refine gate_callee (f := 106) rfl ?_); refine goesL_ (some 147) rfl rfl Tryd.func106 (by kernel_rfl) rfl #[.agg #[.int .i64 a1_3, .int .i64 a1_4, .string a1_5, .slice A1_6 l1_6.length c1_6]] rfl (by (try simp only [List.map_toArray, List.map_cons, List.map_nil]); first | done | rfl | (simp only [List.length_drop, List.length_take]; rfl)) ?_; (with_reducible refine (expr_Names.calls kj97 a1_3 a1_4 a1_5 _ _ l1_6 t119 _ ?side1 ?side2 A178.out (by first | exact HT0.out | exact UT.below HT0.out (by repeat (first | (with_reducible first | exact HB.out | apply below_alloc | apply pw_below_drewN | apply below_drew1 | refine below_set ?_ GE101.out | refine below_set ?_ GE102.out) | exact HB.out)))).mono ?_); (case side1 => repeat (first | exact (Kd.C_below HR1_6.out HB.out) | (with_reducible refine Kd.C_alloc ?_ _) | (with_reducible refine Kd.C_drewN ?_ _) | (with_reducible refine Kd.C_drew ?_))); (case side2 => exact HC1_6.out); rintro e w183 ⟨v120, rfl, ho0, hb⟩; refine ⟨_, rfl, ?_⟩; have n0_ := Aside0.mk (Kd.R_lower ho0 (below_size (by repeat (first | (with_reducible first | exact HB.out | apply below_alloc | apply pw_below_drewN | apply below_drew1 | refine below_set ?_ GE101.out | refine below_set ?_ GE102.out) | exact HB.out)))); have n1_ := Aside0.mk (blk_below (g := gb101) (o := .cells #[.slice A0_0 l0_0.length c0_0, .slice A0_1 l0_1.length c0_1, .slice A0_2 l0_2.length c0_2] 121 (0, 0)) (by (with_reducible repeat (first | refine blk_drewN ?_ _ | refine blk_drew ?_ | refine blk_alloc ?_ _)); exact BK101.out) hb); have n2_ := Aside0.mk (blk_below (g := gb102) (o := .cells #[.int .i64 a1_0, .string a1_1, .string a1_2, .int .i64 a1_3, .int .i64 a1_4, .string a1_5, .slice A1_6 l1_6.length c1_6, .int .i64 a1_7] 67 (0, 0)) (by (with_reducible repeat (first | refine blk_drewN ?_ _ | refine blk_drew ?_ | refine blk_alloc ?_ _)); exact BK102.out) hb); have n3_ := Aside0.mk (below_step (by repeat (first | (with_reducible first | exact HB.out | apply below_alloc | apply pw_below_drewN | apply below_drew1 | refine below_set ?_ GE101.out | refine below_set ?_ GE102.out) | exact HB.out)) hb); clear BK101; clear BK102; clear HB; have HO121 := n0_; have BK101 := n1_; have BK102 := n2_; have HB := n3_; clear n0_ n1_ n2_ n3_; (try clear hb); (try clear hb2); (try clear hk); (try clear hi); (try clear ho0); obtain ⟨Ao184, co184, eo184⟩ := Kd.R_slice HO121.out; subst eo184))
        go_loopg [149] kj97 (fun kq v149 w' => ∃ (x149_3 : Int), v149 = .int .i64 x149_3 ∧ Aside0 (prog_names_step.l0 kq t119 (t119.length : Int) x149_3 l0_0 l0_1 l0_2 = some r) ∧ Aside0 (kq ≤ kj97) ∧ Aside0 (Kd.R Kd.string 9 w' w.heap.size (fun _ => True) (.slice Ao184 t119.length co184) t119) ∧ Aside0 (w'.heap[gb101]? = some (.cells #[(.slice A0_0 l0_0.length c0_0), (.slice A0_1 l0_1.length c0_1), (.slice A0_2 l0_2.length c0_2)] 121 (0, 0))) ∧ Aside0 (w'.heap[gb102]? = some (.cells #[.int .i64 a1_0, .string a1_1, .string a1_2, .int .i64 a1_3, .int .i64 a1_4, .string a1_5, (.slice A1_6 l1_6.length c1_6), .int .i64 a1_7] 67 (0, 0))) ∧ Aside0 (Below w.heap.size w w'))
        case atStart => exact ⟨(0), (by first | rfl | (simp; done) | (simp [*]; done)), H', ⟨Nat.le_refl _⟩, ⟨by (with_reducible repeat (first | apply Kd.R_alloc | apply Kd.R_drewN | apply Kd.R_drew)); exact HO121.out⟩, ⟨by (with_reducible repeat (first | refine blk_drewN ?_ _ | refine blk_drew ?_ | refine blk_alloc ?_ _)); exact BK101.out⟩, ⟨by (with_reducible repeat (first | refine blk_drewN ?_ _ | refine blk_drew ?_ | refine blk_alloc ?_ _)); exact BK102.out⟩, ⟨by repeat (first | (with_reducible first | exact HB.out | apply below_alloc | apply pw_below_drewN | apply below_drew1 | refine below_set ?_ GE101.out | refine below_set ?_ GE102.out) | exact HB.out)⟩⟩
        case round =>
         clear H'
         try clear c1
         try clear c2
         try clear p2
         try clear c10
         try clear c11
         try clear c12
         try clear c13
         try clear c14
         try clear c15
         try clear c16
         try clear c17
         try clear c29
         try clear c105
         try clear c106
         try clear c113
         try clear c128
         try clear c129
         try clear c129b0
         try clear c129b1
         try clear c131
         try clear c132
         try clear c132b0
         try clear c132b1
         try clear c133
         try clear c133b0
         try clear c133b1
         try clear c134
         try clear c138
         try clear c142
         try clear c146
         try clear c149
         try clear c149b0
         try clear c149b1
         try clear c150
         try clear c150b0
         try clear c150b1
         try clear c151
         try clear c153
         try clear c155
         try clear c157
         try clear c157b0
         try clear c157b1
         try clear c159
         try clear c160
         try clear c163
         try clear c166
         try clear c166b0
         try clear c166b1
         try clear c167
         try clear c167b0
         try clear c168
         try clear c170
         try clear c170b0
         try clear c171
         try clear c173
         try clear c175
         try clear c177
         try clear c179
         try clear hcz135_0
         try clear hcz135_1
         try clear hcz135_2
         try clear hcz135_3
         try clear hcz135_4
         try clear hcz135_5
         try clear hcz135_6
         try clear hcz135_7
         try clear hcz137_0
         try clear hcz137_1
         try clear hcz137_2
         try clear hcz137_3
         try clear hcz137_4
         try clear hcz137_5
         try clear hcz137_6
         try clear hcz137_7
         try clear hcz139_0
         try clear hcz139_1
         try clear hcz139_2
         try clear hcz139_3
         try clear hcz139_4
         try clear hcz139_5
         try clear hcz139_6
         try clear hcz139_7
         try clear hcz141_0
         try clear hcz141_1
         try clear hcz141_2
         try clear hcz141_3
         try clear hcz141_4
         try clear hcz141_5
         try clear hcz141_6
         try clear hcz141_7
         try clear hcz143_0
         try clear hcz143_1
         try clear hcz143_2
         try clear hcz143_3
         try clear hcz143_4
         try clear hcz143_5
         try clear hcz143_6
         try clear hcz143_7
         try clear hcz145_0
         try clear hcz145_1
         try clear hcz145_2
         try clear hcz145_3
         try clear hcz145_4
         try clear hcz145_5
         try clear hcz145_6
         try clear hcz145_7
         try clear hcz147_0
         try clear hcz147_1
         try clear hcz147_2
         try clear hcz147_3
         try clear hcz147_4
         try clear hcz147_5
         try clear hcz147_6
         try clear hcz147_7
         try clear hcz152_0
         try clear hcz152_1
         try clear hcz152_2
         try clear hcz152_3
         try clear hcz152_4
         try clear hcz152_5
         try clear hcz152_6
         try clear hcz152_7
         try clear hcz154_0
         try clear hcz154_1
         try clear hcz154_2
         try clear hcz154_3
         try clear hcz154_4
         try clear hcz154_5
         try clear hcz154_6
         try clear hcz154_7
         try clear hcz156_0
         try clear hcz156_1
         try clear hcz156_2
         try clear hcz156_3
         try clear hcz156_4
         try clear hcz156_5
         try clear hcz156_6
         try clear hcz156_7
         try clear hcz161_0
         try clear hcz161_1
         try clear hcz161_2
         try clear hcz161_3
         try clear hcz161_4
         try clear hcz161_5
         try clear hcz161_6
         try clear hcz161_7
         try clear hcz164_0
         try clear hcz164_1
         try clear hcz164_2
         try clear hcz164_3
         try clear hcz164_4
         try clear hcz164_5
         try clear hcz164_6
         try clear hcz164_7
         try clear hcz169_0
         try clear hcz169_1
         try clear hcz169_2
         try clear hcz169_3
         try clear hcz169_4
         try clear hcz169_5
         try clear hcz169_6
         try clear hcz169_7
         try clear hcz172_0
         try clear hcz172_1
         try clear hcz172_2
         try clear hcz172_3
         try clear hcz172_4
         try clear hcz172_5
         try clear hcz172_6
         try clear hcz172_7
         try clear hcz174_0
         try clear hcz174_1
         try clear hcz174_2
         try clear hcz174_3
         try clear hcz174_4
         try clear hcz174_5
         try clear hcz174_6
         try clear hcz174_7
         try clear hcz180_0
         try clear hcz180_1
         try clear hcz180_2
         try clear hcz180_3
         try clear hcz180_4
         try clear hcz180_5
         try clear hcz180_6
         try clear hcz180_7
         try clear hcz182_0
         try clear hcz182_1
         try clear hcz182_2
         try clear hcz182_3
         try clear hcz182_4
         try clear hcz182_5
         try clear hcz182_6
         try clear hcz182_7
         try clear hfz123_1
         try clear hfz123_2
         try clear hfz124_0
         try clear hfz124_1
         try clear hfz124_2
         try clear hfz124_3
         try clear hfz124_4
         try clear hfz124_5
         try clear hfz124_6
         try clear hfz124_7
         try clear hfz126_0
         try clear hfz126_1
         try clear hfz126_2
         try clear hfz127_0
         try clear hfz127_1
         try clear hfz127_2
         try clear hfz127_3
         try clear hfz127_4
         try clear hfz127_5
         try clear hfz127_6
         try clear hfz127_7
         try clear hfz135_0
         try clear hfz135_1
         try clear hfz135_2
         try clear hfz135_3
         try clear hfz135_4
         try clear hfz135_5
         try clear hfz135_6
         try clear hfz135_7
         try clear hfz137_0
         try clear hfz137_1
         try clear hfz137_2
         try clear hfz137_3
         try clear hfz137_4
         try clear hfz137_5
         try clear hfz137_6
         try clear hfz137_7
         try clear hfz139_0
         try clear hfz139_1
         try clear hfz139_2
         try clear hfz139_3
         try clear hfz139_4
         try clear hfz139_5
         try clear hfz139_6
         try clear hfz139_7
         try clear hfz141_0
         try clear hfz141_1
         try clear hfz141_2
         try clear hfz141_3
         try clear hfz141_4
         try clear hfz141_5
         try clear hfz141_6
         try clear hfz141_7
         try clear hfz143_0
         try clear hfz143_1
         try clear hfz143_2
         try clear hfz143_3
         try clear hfz143_4
         try clear hfz143_5
         try clear hfz143_6
         try clear hfz143_7
         try clear hfz145_0
         try clear hfz145_1
         try clear hfz145_2
         try clear hfz145_3
         try clear hfz145_4
         try clear hfz145_5
         try clear hfz145_6
         try clear hfz145_7
         try clear hfz147_0
         try clear hfz147_1
         try clear hfz147_2
         try clear hfz147_3
         try clear hfz147_4
         try clear hfz147_5
         try clear hfz147_6
         try clear hfz147_7
         try clear hfz152_0
         try clear hfz152_1
         try clear hfz152_2
         try clear hfz152_3
         try clear hfz152_4
         try clear hfz152_5
         try clear hfz152_6
         try clear hfz152_7
         try clear hfz154_0
         try clear hfz154_1
         try clear hfz154_2
         try clear hfz154_3
         try clear hfz154_4
         try clear hfz154_5
         try clear hfz154_6
         try clear hfz154_7
         try clear hfz156_0
         try clear hfz156_1
         try clear hfz156_2
         try clear hfz156_3
         try clear hfz156_4
         try clear hfz156_5
         try clear hfz156_6
         try clear hfz156_7
         try clear hfz161_0
         try clear hfz161_1
         try clear hfz161_2
         try clear hfz161_3
         try clear hfz161_4
         try clear hfz161_5
         try clear hfz161_6
         try clear hfz161_7
         try clear hfz164_0
         try clear hfz164_1
         try clear hfz164_2
         try clear hfz164_3
         try clear hfz164_4
         try clear hfz164_5
         try clear hfz164_6
         try clear hfz164_7
         try clear hfz169_0
         try clear hfz169_1
         try clear hfz169_2
         try clear hfz169_3
         try clear hfz169_4
         try clear hfz169_5
         try clear hfz169_6
         try clear hfz169_7
         try clear hfz172_0
         try clear hfz172_1
         try clear hfz172_2
         try clear hfz172_3
         try clear hfz172_4
         try clear hfz172_5
         try clear hfz172_6
         try clear hfz172_7
         try clear hfz174_0
         try clear hfz174_1
         try clear hfz174_2
         try clear hfz174_3
         try clear hfz174_4
         try clear hfz174_5
         try clear hfz174_6
         try clear hfz174_7
         try clear hfz180_0
         try clear hfz180_1
         try clear hfz180_2
         try clear hfz180_3
         try clear hfz180_4
         try clear hfz180_5
         try clear hfz180_6
         try clear hfz180_7
         try clear hfz182_0
         try clear hfz182_1
         try clear hfz182_2
         try clear hfz182_3
         try clear hfz182_4
         try clear hfz182_5
         try clear hfz182_6
         try clear hfz182_7
         try clear hfz34_0
         try clear hfz34_1
         try clear hfz34_2
         try clear hfz34_3
         try clear hfz34_4
         try clear hfz34_5
         try clear hfz34_6
         try clear hfz34_7
         try clear hfz36_0
         try clear hfz36_1
         try clear hfz36_2
         try clear hfz36_3
         try clear hfz36_4
         try clear hfz36_5
         try clear hfz36_6
         try clear hfz36_7
         try clear hfz41_0
         try clear hfz41_1
         try clear hfz41_2
         try clear hfz41_3
         try clear hfz41_4
         try clear hfz41_5
         try clear hfz41_6
         try clear hfz41_7
         try clear hfz44_0
         try clear hfz44_1
         try clear hfz44_2
         try clear hfz44_3
         try clear hfz44_4
         try clear hfz44_5
         try clear hfz44_6
         try clear hfz44_7
         try clear hfz46_0
         try clear hfz46_1
         try clear hfz46_2
         try clear hfz46_3
         try clear hfz46_4
         try clear hfz46_5
         try clear hfz46_6
         try clear hfz46_7
         try clear hfz48_0
         try clear hfz48_1
         try clear hfz48_2
         try clear hfz48_3
         try clear hfz48_4
         try clear hfz48_5
         try clear hfz48_6
         try clear hfz48_7
         try clear hfz51_0
         try clear hfz51_1
         try clear hfz51_2
         try clear hfz51_3
         try clear hfz51_4
         try clear hfz51_5
         try clear hfz51_6
         try clear hfz51_7
         try clear hfz57_0
         try clear hfz57_1
         try clear hfz57_2
         try clear hfz57_3
         try clear hfz57_4
         try clear hfz57_5
         try clear hfz57_6
         try clear hfz57_7
         try clear hfz59_0
         try clear hfz59_1
         try clear hfz59_2
         try clear hfz59_3
         try clear hfz59_4
         try clear hfz59_5
         try clear hfz59_6
         try clear hfz59_7
         try clear hfz64_0
         try clear hfz64_1
         try clear hfz64_2
         try clear hfz64_3
         try clear hfz64_4
         try clear hfz64_5
         try clear hfz64_6
         try clear hfz64_7
         try clear hfz67_0
         try clear hfz67_1
         try clear hfz67_2
         try clear hfz67_3
         try clear hfz67_4
         try clear hfz67_5
         try clear hfz67_6
         try clear hfz67_7
         try clear hfz69_0
         try clear hfz69_1
         try clear hfz69_2
         try clear hfz69_3
         try clear hfz69_4
         try clear hfz69_5
         try clear hfz69_6
         try clear hfz69_7
         try clear hfz71_0
         try clear hfz71_1
         try clear hfz71_2
         try clear hfz71_3
         try clear hfz71_4
         try clear hfz71_5
         try clear hfz71_6
         try clear hfz71_7
         try clear hfz77_0
         try clear hfz77_1
         try clear hfz77_2
         try clear hfz77_3
         try clear hfz77_4
         try clear hfz77_5
         try clear hfz77_6
         try clear hfz77_7
         try clear hfz79_0
         try clear hfz79_1
         try clear hfz79_2
         try clear hfz79_3
         try clear hfz79_4
         try clear hfz79_5
         try clear hfz79_6
         try clear hfz79_7
         try clear hfz84_0
         try clear hfz84_1
         try clear hfz84_2
         try clear hfz84_3
         try clear hfz84_4
         try clear hfz84_5
         try clear hfz84_6
         try clear hfz84_7
         try clear hfz87_0
         try clear hfz87_1
         try clear hfz87_2
         try clear hfz87_3
         try clear hfz87_4
         try clear hfz87_5
         try clear hfz87_6
         try clear hfz87_7
         try clear hfz89_0
         try clear hfz89_1
         try clear hfz89_2
         try clear hfz89_3
         try clear hfz89_4
         try clear hfz89_5
         try clear hfz89_6
         try clear hfz89_7
         try clear hfz91_0
         try clear hfz91_1
         try clear hfz91_2
         try clear hfz91_3
         try clear hfz91_4
         try clear hfz91_5
         try clear hfz91_6
         try clear hfz91_7
         try clear hfz94_0
         try clear hfz94_1
         try clear hfz94_2
         try clear hfz94_3
         try clear hfz94_4
         try clear hfz94_5
         try clear hfz94_6
         try clear hfz94_7
         try clear hfz96_0
         try clear hfz96_1
         try clear hfz96_2
         try clear hfz96_3
         try clear hfz96_4
         try clear hfz96_5
         try clear hfz96_6
         try clear hfz96_7
         try clear p2
         obtain ⟨x149_3, rfl, HA, HK3, HO_147, BK101, BK102, HB⟩ := hrel
         cases gk with
         | zero => exact absurd HA.out (by simp [prog_names_step.l0])
         | succ k3 =>
          have H := HA.out
          clear HA
          simp only [prog_names_step.l0] at H
          by_cases c185 : x149_3 < (t119.length : Int)
          ·rw [if_pos c185] at H
           have c185b0 : decide (x149_3 < (t119.length : Int)) = true := decide_eq_true c185
           clear c185
           by_cases c186 : 0 ≤ x149_3
           ·rw [if_pos c186] at H
            have c186b0 : decide (0 ≤ x149_3) = true := decide_eq_true c186
            clear c186
            by_cases c187 : x149_3 < (t119.length : Int)
            ·rw [if_pos c187] at H
             have c187b0 : decide (x149_3 < (t119.length : Int)) = true := decide_eq_true c187
             clear c187
             replace H := Option.bind_eq_some_iff.mp H
             obtain ⟨t123, A1880, H⟩ := H
             replace H : (if t123 = true then (prog_names_step.l0 k3 t119 (t119.length : Int) (wrap64 (x149_3 + 1)) l0_0 l0_1 l0_2) else (some 4)) = some r := H
             have A188 := Aside0.mk A1880
             clear A1880
             by_cases c189 : t123 = true
             ·subst c189
              have H1 : (prog_names_step.l0 k3 t119 (t119.length : Int) (wrap64 (x149_3 + 1)) l0_0 l0_1 l0_2) = some r := by rw [if_pos rfl] at H; exact H
              clear H
              have H := H1
              clear H1
              have H' := Aside0.mk H
              clear H
              have p122 : 0 ≤ (x149_3 : Int) := of_decide_eq_true (by first | (with_reducible assumption) | assumption)
              have q122 : x149_3 < (t119.length : Int) := of_decide_eq_true (by first | (with_reducible assumption) | assumption)
              obtain ⟨ad122, e122, hx122_0⟩ := Kd.at_string (Kd.R_reads' HO_147.out).2.2 x149_3 p122 q122
              cases e122
              replace p122 := eq_true p122
              replace q122 := eq_true q122
              have hnb190 := NB101_102.out
              have hnc190 := NB102_101.out
              have hcz191_0 : wr.cell? ⟨gb101, 0, none⟩ = some (.slice A0_0 l0_0.length c0_0) := (blk_cell BK101.out 0).trans rfl
              have hcz191_1 : wr.cell? ⟨gb101, 1, none⟩ = some (.slice A0_1 l0_1.length c0_1) := (blk_cell BK101.out 1).trans rfl
              have hcz191_2 : wr.cell? ⟨gb101, 2, none⟩ = some (.slice A0_2 l0_2.length c0_2) := (blk_cell BK101.out 2).trans rfl
              have hfz191_0 := blk_frozen BK101.out 0
              have hfz191_1 := blk_frozen BK101.out 1
              have hfz191_2 := blk_frozen BK101.out 2
              as_aux_lemma =>
               go_wp2_with (first | ((with_reducible refine gate_callee (f := 61) rfl ?_); refine goesL_ (some 156) rfl rfl Tryd.func61 (by kernel_rfl) rfl #[.slice A0_2 l0_2.length c0_2, .string (rdOf ByteArray.empty t119 x149_3)] rfl (by (try simp only [List.map_toArray, List.map_cons, List.map_nil]); first | done | rfl | (simp only [List.length_drop, List.length_take]; rfl)) ?_; (with_reducible refine (slices_Contains_string_string.calls k3 _ _ l0_2 (rdOf ByteArray.empty t119 x149_3) true _ ?side1 ?side2 A188.out).mono ?_); (case side1 => repeat (first | exact (Kd.C_below HR0_2.out HB.out) | (with_reducible refine Kd.C_alloc ?_ _) | (with_reducible refine Kd.C_drewN ?_ _) | (with_reducible refine Kd.C_drew ?_))); (case side2 => exact HC0_2.out); rintro e w' ⟨rfl, ⟨nd, rfl⟩⟩; refine ⟨_, rfl, ?_⟩))
               go_roundg k3
               case measure => have := HJ4.out; have := HJ97.out; have := HK3.out; omega
               case rel => exact ⟨(wrap64 (x149_3 + 1)), (by first | rfl | (simp; done) | (simp [*]; done)), H', ⟨by have := HJ4.out; have := HJ97.out; have := HK3.out; omega⟩, ⟨by (with_reducible repeat (first | apply Kd.R_alloc | apply Kd.R_drewN | apply Kd.R_drew)); exact HO_147.out⟩, ⟨by (with_reducible repeat (first | refine blk_drewN ?_ _ | refine blk_drew ?_ | refine blk_alloc ?_ _)); exact BK101.out⟩, ⟨by (with_reducible repeat (first | refine blk_drewN ?_ _ | refine blk_drew ?_ | refine blk_alloc ?_ _)); exact BK102.out⟩, ⟨by repeat (first | (with_reducible first | exact HB.out | apply below_alloc | apply pw_below_drewN | apply below_drew1 | refine below_set ?_ GE101.out | refine below_set ?_ GE102.out) | exact HB.out)⟩⟩
             ·replace c189 := Bool.eq_false_iff.mpr c189
              subst c189
              have H1 : (some 4) = some r := by rw [if_neg (show ¬ (false = true) by decide)] at H; exact H
              clear H
              have H := H1
              clear H1
              obtain rfl := Option.some.inj H
              have p122 : 0 ≤ (x149_3 : Int) := of_decide_eq_true (by first | (with_reducible assumption) | assumption)
              have q122 : x149_3 < (t119.length : Int) := of_decide_eq_true (by first | (with_reducible assumption) | assumption)
              obtain ⟨ad122, e122, hx122_0⟩ := Kd.at_string (Kd.R_reads' HO_147.out).2.2 x149_3 p122 q122
              cases e122
              replace p122 := eq_true p122
              replace q122 := eq_true q122
              have hnb192 := NB101_102.out
              have hnc192 := NB102_101.out
              have hcz193_0 : wr.cell? ⟨gb101, 0, none⟩ = some (.slice A0_0 l0_0.length c0_0) := (blk_cell BK101.out 0).trans rfl
              have hcz193_1 : wr.cell? ⟨gb101, 1, none⟩ = some (.slice A0_1 l0_1.length c0_1) := (blk_cell BK101.out 1).trans rfl
              have hcz193_2 : wr.cell? ⟨gb101, 2, none⟩ = some (.slice A0_2 l0_2.length c0_2) := (blk_cell BK101.out 2).trans rfl
              have hfz193_0 := blk_frozen BK101.out 0
              have hfz193_1 := blk_frozen BK101.out 1
              have hfz193_2 := blk_frozen BK101.out 2
              as_aux_lemma =>
               go_wp2_with (first | ((with_reducible refine gate_callee (f := 61) rfl ?_); refine goesL_ (some 156) rfl rfl Tryd.func61 (by kernel_rfl) rfl #[.slice A0_2 l0_2.length c0_2, .string (rdOf ByteArray.empty t119 x149_3)] rfl (by (try simp only [List.map_toArray, List.map_cons, List.map_nil]); first | done | rfl | (simp only [List.length_drop, List.length_take]; rfl)) ?_; (with_reducible refine (slices_Contains_string_string.calls k3 _ _ l0_2 (rdOf ByteArray.empty t119 x149_3) false _ ?side1 ?side2 A188.out).mono ?_); (case side1 => repeat (first | exact (Kd.C_below HR0_2.out HB.out) | (with_reducible refine Kd.C_alloc ?_ _) | (with_reducible refine Kd.C_drewN ?_ _) | (with_reducible refine Kd.C_drew ?_))); (case side2 => exact HC0_2.out); rintro e w' ⟨rfl, ⟨nd, rfl⟩⟩; refine ⟨_, rfl, ?_⟩))
               go_ret
               exact ⟨by first | rfl | (simp [errW_none, errW_some] <;> rfl) | (simp [*, errW_none, errW_some] <;> rfl), by repeat (first | (with_reducible first | exact HB.out | apply below_alloc | apply pw_below_drewN | apply below_drew1 | refine below_set ?_ GE101.out | refine below_set ?_ GE102.out) | exact HB.out)⟩
            ·rw [if_neg c187] at H
             exact absurd H (by simp)
           ·rw [if_neg c186] at H
            exact absurd H (by simp)
          ·rw [if_neg c185] at H
           have c185b0 : decide (x149_3 < (t119.length : Int)) = false := decide_eq_false c185
           clear c185
           obtain rfl := Option.some.inj H
           as_aux_lemma =>
            go_wp2
            go_ret
            exact ⟨by first | rfl | (simp [errW_none, errW_some] <;> rfl) | (simp [*, errW_none, errW_some] <;> rfl), by repeat (first | (with_reducible first | exact HB.out | apply below_alloc | apply pw_below_drewN | apply below_drew1 | refine below_set ?_ GE101.out | refine below_set ?_ GE102.out) | exact HB.out)⟩
       ·replace c177 := Bool.eq_false_iff.mpr c177
        subst c177
        have H1 : (some 1) = some r := by rw [if_neg (show ¬ (false = true) by decide)] at H; exact H
        clear H
        have H := H1
        clear H1
        obtain rfl := Option.some.inj H
        have hnb194 := NB102_101.out
        have hnc194 := NB101_102.out
        have hcz195_0 : wc.cell? ⟨gb102, 0, none⟩ = some (.int .i64 a1_0) := (blk_cell BK102.out 0).trans rfl
        have hcz195_1 : wc.cell? ⟨gb102, 1, none⟩ = some (.string a1_1) := (blk_cell BK102.out 1).trans rfl
        have hcz195_2 : wc.cell? ⟨gb102, 2, none⟩ = some (.string a1_2) := (blk_cell BK102.out 2).trans rfl
        have hcz195_3 : wc.cell? ⟨gb102, 3, none⟩ = some (.int .i64 a1_3) := (blk_cell BK102.out 3).trans rfl
        have hcz195_4 : wc.cell? ⟨gb102, 4, none⟩ = some (.int .i64 a1_4) := (blk_cell BK102.out 4).trans rfl
        have hcz195_5 : wc.cell? ⟨gb102, 5, none⟩ = some (.string a1_5) := (blk_cell BK102.out 5).trans rfl
        have hcz195_6 : wc.cell? ⟨gb102, 6, none⟩ = some (.slice A1_6 l1_6.length c1_6) := (blk_cell BK102.out 6).trans rfl
        have hcz195_7 : wc.cell? ⟨gb102, 7, none⟩ = some (.int .i64 a1_7) := (blk_cell BK102.out 7).trans rfl
        have hfz195_0 := blk_frozen BK102.out 0
        have hfz195_1 := blk_frozen BK102.out 1
        have hfz195_2 := blk_frozen BK102.out 2
        have hfz195_3 := blk_frozen BK102.out 3
        have hfz195_4 := blk_frozen BK102.out 4
        have hfz195_5 := blk_frozen BK102.out 5
        have hfz195_6 := blk_frozen BK102.out 6
        have hfz195_7 := blk_frozen BK102.out 7
        as_aux_lemma =>
         go_wp2_with (first | ((with_reducible refine gate_callee (f := 29) rfl ?_); refine goesL_ (some 143) rfl rfl Tryd.func29 (by kernel_rfl) rfl #[.agg #[.int .i64 a1_3, .int .i64 a1_4, .string a1_5, .slice A1_6 l1_6.length c1_6]] rfl (by (try simp only [List.map_toArray, List.map_cons, List.map_nil]); first | done | rfl | (simp only [List.length_drop, List.length_take]; rfl)) ?_; (with_reducible refine (expr_May.calls kj97 a1_3 a1_4 a1_5 _ _ l1_6 false _ ?side1 ?side2 A176.out (by first | exact HT0.out | exact UT.below HT0.out (by repeat (first | (with_reducible first | exact HB.out | apply below_alloc | apply pw_below_drewN | apply below_drew1 | refine below_set ?_ GE101.out | refine below_set ?_ GE102.out) | exact HB.out)))).mono ?_); (case side1 => repeat (first | exact (Kd.C_below HR1_6.out HB.out) | (with_reducible refine Kd.C_alloc ?_ _) | (with_reducible refine Kd.C_drewN ?_ _) | (with_reducible refine Kd.C_drew ?_))); (case side2 => exact HC1_6.out); rintro e w196 ⟨rfl, hb⟩; refine ⟨_, rfl, ?_⟩; have n0_ := Aside0.mk (blk_below (g := gb101) (o := .cells #[.slice A0_0 l0_0.length c0_0, .slice A0_1 l0_1.length c0_1, .slice A0_2 l0_2.length c0_2] 121 (0, 0)) (by (with_reducible repeat (first | refine blk_drewN ?_ _ | refine blk_drew ?_ | refine blk_alloc ?_ _)); exact BK101.out) hb); have n1_ := Aside0.mk (blk_below (g := gb102) (o := .cells #[.int .i64 a1_0, .string a1_1, .string a1_2, .int .i64 a1_3, .int .i64 a1_4, .string a1_5, .slice A1_6 l1_6.length c1_6, .int .i64 a1_7] 67 (0, 0)) (by (with_reducible repeat (first | refine blk_drewN ?_ _ | refine blk_drew ?_ | refine blk_alloc ?_ _)); exact BK102.out) hb); have n2_ := Aside0.mk (below_step (by repeat (first | (with_reducible first | exact HB.out | apply below_alloc | apply pw_below_drewN | apply below_drew1 | refine below_set ?_ GE101.out | refine below_set ?_ GE102.out) | exact HB.out)) hb); clear BK101; clear BK102; clear HB; have BK101 := n0_; have BK102 := n1_; have HB := n2_; clear n0_ n1_ n2_; (try clear hb); (try clear hb2); (try clear hk); (try clear hi)))
         go_ret
         exact ⟨by first | rfl | (simp [errW_none, errW_some] <;> rfl) | (simp [*, errW_none, errW_some] <;> rfl), by repeat (first | (with_reducible first | exact HB.out | apply below_alloc | apply pw_below_drewN | apply below_drew1 | refine below_set ?_ GE101.out | refine below_set ?_ GE102.out) | exact HB.out)⟩
      ·replace c175 := Bool.eq_false_iff.mpr c175
       subst c175
       have H1 : (some 0) = some r := by rw [if_neg (show ¬ (false = true) by decide)] at H; exact H
       clear H
       have H := H1
       clear H1
       obtain rfl := Option.some.inj H
       as_aux_lemma =>
        go_wp2
        go_ret
        exact ⟨by first | rfl | (simp [errW_none, errW_some] <;> rfl) | (simp [*, errW_none, errW_some] <;> rfl), by repeat (first | (with_reducible first | exact HB.out | apply below_alloc | apply pw_below_drewN | apply below_drew1 | refine below_set ?_ GE101.out | refine below_set ?_ GE102.out) | exact HB.out)⟩
end Go.Proofs.YtiaccdaeomaogaaDoor.F
