/- Texts of one claim, slimmed and merged by slim.py. -/
import Derived.Test.YtiaccdaeomaogaaDoorA4
import Derived.Test.YtiaccdaeomaogaaDoorA6
import Derived.Test.YtiaccdaeomaogaaDoorA7
import Derived.Test.YtiaccdaeomaogaaDoorA9
import Derived.Test.YtiaccdaeomaogaaDoorA12
import Derived.Test.YtiaccdaeomaogaaDoorA13
import Derived.Test.YtiaccdaeomaogaaDoorA16
namespace Go.Proofs.YtiaccdaeomaogaaDoor.F
open Go.RowKit Go.Proofs.YtiaccdaeomaogaaDoorW.PrintWords Go.Proofs.YtiaccdaeomaogaaDoorW.PrintLast Go.Proofs.YtiaccdaeomaogaaDoorW.PrintMore
attribute [local go_sem] max2_int min2_int max_two min_two max_three min_three max_four min_four   -- for this text's walks alone
set_option linter.unusedVariables false
set_option linter.unusedSimpArgs false
mutual
def prog_names_step.j0 : Nat → Int → Bool → Bool → List ByteArray → List ByteArray → List ByteArray → Int → ByteArray → ByteArray → Int → Int → ByteArray → List (S34) → Int → Option (Int)
  | 0, _, _, _, _, _, _, _, _, _, _, _, _, _, _ => none
  | k + 1, x2, x9, x63, x102000, x102001, x102002, x103000, x103001, x103002, x103003, x103004, x103005, x103006, x103007 => if x63 = true then (some 1) else (if x103000 = 0 then ((slices_Contains_string_string.f k x102000 x103001).bind fun t112 => (if t112 = true then (prog_names_step.j3 k x9 x102000 x102001 x102002 x103000 x103001 x103002 x103003 x103004 x103005 x103006 x103007) else (some 4))) else (if x103000 = 3 then (prog_names_step.j1 k x2 x9 x103000 (x103000 == 3) x102000 x102001 x102002 x103000 x103001 x103002 x103003 x103004 x103005 x103006 x103007) else (if x103000 = 4 then (prog_names_step.j1 k x2 x9 x103000 (x103000 == 4) x102000 x102001 x102002 x103000 x103001 x103002 x103003 x103004 x103005 x103006 x103007) else (prog_names_step.j1 k x2 x9 x103000 (x103000 == 5) x102000 x102001 x102002 x103000 x103001 x103002 x103003 x103004 x103005 x103006 x103007))))
def prog_names_step.j3 : Nat → Bool → List ByteArray → List ByteArray → List ByteArray → Int → ByteArray → ByteArray → Int → Int → ByteArray → List (S34) → Int → Option (Int)
  | 0, _, _, _, _, _, _, _, _, _, _, _, _ => none
  | k + 1, x9, x102000, x102001, x102002, x103000, x103001, x103002, x103003, x103004, x103005, x103006, x103007 => if x9 = true then ((expr_May.f k x103003 x103004 x103005 x103006).bind fun t118 => (if t118 = true then ((expr_Names.f k x103003 x103004 x103005 x103006).bind fun t119 => (prog_names_step.l0 k t119 (t119.length : Int) 0 x102000 x102001 x102002)) else (some 1))) else (some 0)
def prog_names_step.l0 : Nat → List ByteArray → Int → Int → List ByteArray → List ByteArray → List ByteArray → Option (Int)
  | 0, _, _, _, _, _, _ => none
  | k + 1, x147, x148, x149, x102000, x102001, x102002 => if x149 < x148 then (if 0 ≤ x149 then (if x149 < (x147.length : Int) then ((slices_Contains_string_string.f k x102002 (rdOf ByteArray.empty x147 x149)).bind fun t123 => (if t123 = true then (prog_names_step.l0 k x147 x148 (wrap64 (x149 + 1)) x102000 x102001 x102002) else (some 4))) else (none)) else (none)) else (some 0)
def prog_names_step.j1 : Nat → Int → Bool → Int → Bool → List ByteArray → List ByteArray → List ByteArray → Int → ByteArray → ByteArray → Int → Int → ByteArray → List (S34) → Int → Option (Int)
  | 0, _, _, _, _, _, _, _, _, _, _, _, _, _, _, _ => none
  | k + 1, x2, x9, x65, x74, x102000, x102001, x102002, x103000, x103001, x103002, x103003, x103004, x103005, x103006, x103007 => if x74 = true then ((slices_Contains_string_string.f k x102001 x103001).bind fun t113 => (if t113 = true then (if x103000 = 5 then ((slices_Contains_string_string.f k x102001 x103002).bind fun t114 => (prog_names_step.j2 k x9 (!t114) x102000 x102001 x102002 x103000 x103001 x103002 x103003 x103004 x103005 x103006 x103007)) else (prog_names_step.j2 k x9 false x102000 x102001 x102002 x103000 x103001 x103002 x103003 x103004 x103005 x103006 x103007)) else (prog_names_step.j2 k x9 true x102000 x102001 x102002 x103000 x103001 x103002 x103003 x103004 x103005 x103006 x103007))) else (if x65 = 7 then ((lex_Quote.f x103001).bind fun bt116 => (if bt116.2 = true then (prog_names_step.j3 k x9 x102000 x102001 x102002 x103000 x103001 x103002 x103003 x103004 x103005 x103006 x103007) else (some 1))) else (if x65 = 6 then (if x103007 < 0 then (some 1) else (if x103007 > x2 then (some 1) else (prog_names_step.j3 k x9 x102000 x102001 x102002 x103000 x103001 x103002 x103003 x103004 x103005 x103006 x103007))) else (prog_names_step.j3 k x9 x102000 x102001 x102002 x103000 x103001 x103002 x103003 x103004 x103005 x103006 x103007)))
def prog_names_step.j2 : Nat → Bool → Bool → List ByteArray → List ByteArray → List ByteArray → Int → ByteArray → ByteArray → Int → Int → ByteArray → List (S34) → Int → Option (Int)
  | 0, _, _, _, _, _, _, _, _, _, _, _, _, _ => none
  | k + 1, x9, x96, x102000, x102001, x102002, x103000, x103001, x103002, x103003, x103004, x103005, x103006, x103007 => if x96 = true then (some 4) else (if x103000 = 3 then ((lex_Name.f x103002).bind fun t115 => (if t115 = true then (if x103000 = 5 then (if x103002.toList = x103001.toList then (some 1) else (prog_names_step.j3 k x9 x102000 x102001 x102002 x103000 x103001 x103002 x103003 x103004 x103005 x103006 x103007)) else (prog_names_step.j3 k x9 x102000 x102001 x102002 x103000 x103001 x103002 x103003 x103004 x103005 x103006 x103007)) else (some 1))) else (if x103000 = 5 then (if x103002.toList = x103001.toList then (some 1) else (prog_names_step.j3 k x9 x102000 x102001 x102002 x103000 x103001 x103002 x103003 x103004 x103005 x103006 x103007)) else (prog_names_step.j3 k x9 x102000 x102001 x102002 x103000 x103001 x103002 x103003 x103004 x103005 x103006 x103007)))
end
def prog_names_step.f (k : Nat) (l0_0 : List ByteArray) (l0_1 : List ByteArray) (l0_2 : List ByteArray) (a1_0 : Int) (a1_1 : ByteArray) (a1_2 : ByteArray) (a1_3 : Int) (a1_4 : Int) (a1_5 : ByteArray) (l1_6 : List (S34)) (a1_7 : Int) (a2 : Int) : Option (Int) := (prog_uses.f k a1_0).bind fun bt103 => (if bt103.2.2.2.2 = true then (if bt103.1 = true then (if bt103.2.1 = true then (if bt103.2.2.1 = true then (if bt103.2.2.2.1 = true then (prog_names_step.j0 k a2 bt103.2.2.1 false l0_0 l0_1 l0_2 a1_0 a1_1 a1_2 a1_3 a1_4 a1_5 l1_6 a1_7) else (prog_names_step.j0 k a2 bt103.2.2.1 (a1_7 != 0) l0_0 l0_1 l0_2 a1_0 a1_1 a1_2 a1_3 a1_4 a1_5 l1_6 a1_7)) else ((prog_blank.f a1_3 a1_4 a1_5 l1_6).bind fun t108 => (if t108 = true then (if bt103.2.2.2.1 = true then (prog_names_step.j0 k a2 bt103.2.2.1 false l0_0 l0_1 l0_2 a1_0 a1_1 a1_2 a1_3 a1_4 a1_5 l1_6 a1_7) else (prog_names_step.j0 k a2 bt103.2.2.1 (a1_7 != 0) l0_0 l0_1 l0_2 a1_0 a1_1 a1_2 a1_3 a1_4 a1_5 l1_6 a1_7)) else (prog_names_step.j0 k a2 bt103.2.2.1 true l0_0 l0_1 l0_2 a1_0 a1_1 a1_2 a1_3 a1_4 a1_5 l1_6 a1_7)))) else (if a1_2.toList = ([] : List UInt8) then (if bt103.2.2.1 = true then (if bt103.2.2.2.1 = true then (prog_names_step.j0 k a2 bt103.2.2.1 false l0_0 l0_1 l0_2 a1_0 a1_1 a1_2 a1_3 a1_4 a1_5 l1_6 a1_7) else (prog_names_step.j0 k a2 bt103.2.2.1 (a1_7 != 0) l0_0 l0_1 l0_2 a1_0 a1_1 a1_2 a1_3 a1_4 a1_5 l1_6 a1_7)) else ((prog_blank.f a1_3 a1_4 a1_5 l1_6).bind fun t109 => (if t109 = true then (if bt103.2.2.2.1 = true then (prog_names_step.j0 k a2 bt103.2.2.1 false l0_0 l0_1 l0_2 a1_0 a1_1 a1_2 a1_3 a1_4 a1_5 l1_6 a1_7) else (prog_names_step.j0 k a2 bt103.2.2.1 (a1_7 != 0) l0_0 l0_1 l0_2 a1_0 a1_1 a1_2 a1_3 a1_4 a1_5 l1_6 a1_7)) else (prog_names_step.j0 k a2 bt103.2.2.1 true l0_0 l0_1 l0_2 a1_0 a1_1 a1_2 a1_3 a1_4 a1_5 l1_6 a1_7)))) else (prog_names_step.j0 k a2 bt103.2.2.1 true l0_0 l0_1 l0_2 a1_0 a1_1 a1_2 a1_3 a1_4 a1_5 l1_6 a1_7))) else (if a1_1.toList = ([] : List UInt8) then (if bt103.2.1 = true then (if bt103.2.2.1 = true then (if bt103.2.2.2.1 = true then (prog_names_step.j0 k a2 bt103.2.2.1 false l0_0 l0_1 l0_2 a1_0 a1_1 a1_2 a1_3 a1_4 a1_5 l1_6 a1_7) else (prog_names_step.j0 k a2 bt103.2.2.1 (a1_7 != 0) l0_0 l0_1 l0_2 a1_0 a1_1 a1_2 a1_3 a1_4 a1_5 l1_6 a1_7)) else ((prog_blank.f a1_3 a1_4 a1_5 l1_6).bind fun t110 => (if t110 = true then (if bt103.2.2.2.1 = true then (prog_names_step.j0 k a2 bt103.2.2.1 false l0_0 l0_1 l0_2 a1_0 a1_1 a1_2 a1_3 a1_4 a1_5 l1_6 a1_7) else (prog_names_step.j0 k a2 bt103.2.2.1 (a1_7 != 0) l0_0 l0_1 l0_2 a1_0 a1_1 a1_2 a1_3 a1_4 a1_5 l1_6 a1_7)) else (prog_names_step.j0 k a2 bt103.2.2.1 true l0_0 l0_1 l0_2 a1_0 a1_1 a1_2 a1_3 a1_4 a1_5 l1_6 a1_7)))) else (if a1_2.toList = ([] : List UInt8) then (if bt103.2.2.1 = true then (if bt103.2.2.2.1 = true then (prog_names_step.j0 k a2 bt103.2.2.1 false l0_0 l0_1 l0_2 a1_0 a1_1 a1_2 a1_3 a1_4 a1_5 l1_6 a1_7) else (prog_names_step.j0 k a2 bt103.2.2.1 (a1_7 != 0) l0_0 l0_1 l0_2 a1_0 a1_1 a1_2 a1_3 a1_4 a1_5 l1_6 a1_7)) else ((prog_blank.f a1_3 a1_4 a1_5 l1_6).bind fun t111 => (if t111 = true then (if bt103.2.2.2.1 = true then (prog_names_step.j0 k a2 bt103.2.2.1 false l0_0 l0_1 l0_2 a1_0 a1_1 a1_2 a1_3 a1_4 a1_5 l1_6 a1_7) else (prog_names_step.j0 k a2 bt103.2.2.1 (a1_7 != 0) l0_0 l0_1 l0_2 a1_0 a1_1 a1_2 a1_3 a1_4 a1_5 l1_6 a1_7)) else (prog_names_step.j0 k a2 bt103.2.2.1 true l0_0 l0_1 l0_2 a1_0 a1_1 a1_2 a1_3 a1_4 a1_5 l1_6 a1_7)))) else (prog_names_step.j0 k a2 bt103.2.2.1 true l0_0 l0_1 l0_2 a1_0 a1_1 a1_2 a1_3 a1_4 a1_5 l1_6 a1_7))) else (prog_names_step.j0 k a2 bt103.2.2.1 true l0_0 l0_1 l0_2 a1_0 a1_1 a1_2 a1_3 a1_4 a1_5 l1_6 a1_7))) else (prog_names_step.j0 k a2 bt103.2.2.1 true l0_0 l0_1 l0_2 a1_0 a1_1 a1_2 a1_3 a1_4 a1_5 l1_6 a1_7))
theorem prog_names_step.mono_l : ∀ k, (∀ y0 y1 y2 y3 y4 y5 y6 y7 y8 y9 y10 y11 y12 y13, LeO (prog_names_step.j0 k y0 y1 y2 y3 y4 y5 y6 y7 y8 y9 y10 y11 y12 y13) (prog_names_step.j0 (k + 1) y0 y1 y2 y3 y4 y5 y6 y7 y8 y9 y10 y11 y12 y13)) ∧ (∀ y0 y1 y2 y3 y4 y5 y6 y7 y8 y9 y10 y11, LeO (prog_names_step.j3 k y0 y1 y2 y3 y4 y5 y6 y7 y8 y9 y10 y11) (prog_names_step.j3 (k + 1) y0 y1 y2 y3 y4 y5 y6 y7 y8 y9 y10 y11)) ∧ (∀ y0 y1 y2 y3 y4 y5, LeO (prog_names_step.l0 k y0 y1 y2 y3 y4 y5) (prog_names_step.l0 (k + 1) y0 y1 y2 y3 y4 y5)) ∧ (∀ y0 y1 y2 y3 y4 y5 y6 y7 y8 y9 y10 y11 y12 y13 y14, LeO (prog_names_step.j1 k y0 y1 y2 y3 y4 y5 y6 y7 y8 y9 y10 y11 y12 y13 y14) (prog_names_step.j1 (k + 1) y0 y1 y2 y3 y4 y5 y6 y7 y8 y9 y10 y11 y12 y13 y14)) ∧ (∀ y0 y1 y2 y3 y4 y5 y6 y7 y8 y9 y10 y11 y12, LeO (prog_names_step.j2 k y0 y1 y2 y3 y4 y5 y6 y7 y8 y9 y10 y11 y12) (prog_names_step.j2 (k + 1) y0 y1 y2 y3 y4 y5 y6 y7 y8 y9 y10 y11 y12))
  | 0 => ⟨fun _ _ _ _ _ _ _ _ _ _ _ _ _ _ r h => by simp [prog_names_step.j0] at h, fun _ _ _ _ _ _ _ _ _ _ _ _ r h => by simp [prog_names_step.j3] at h, fun _ _ _ _ _ _ r h => by simp [prog_names_step.l0] at h, fun _ _ _ _ _ _ _ _ _ _ _ _ _ _ _ r h => by simp [prog_names_step.j1] at h, fun _ _ _ _ _ _ _ _ _ _ _ _ _ r h => by simp [prog_names_step.j2] at h⟩
  | k + 1 => by
    obtain ⟨ih0, ih1, ih2, ih3, ih4⟩ := prog_names_step.mono_l k
    refine ⟨?_, ?_, ?_, ?_, ?_⟩
    · intro y0 y1 y2 y3 y4 y5 y6 y7 y8 y9 y10 y11 y12 y13
      unfold prog_names_step.j0
      repeat' first
      | (with_reducible exact ih0 _ _ _ _ _ _ _ _ _ _ _ _ _ _)
      | (with_reducible exact ih1 _ _ _ _ _ _ _ _ _ _ _ _)
      | (with_reducible exact ih2 _ _ _ _ _ _)
      | (with_reducible exact ih3 _ _ _ _ _ _ _ _ _ _ _ _ _ _ _)
      | (with_reducible exact ih4 _ _ _ _ _ _ _ _ _ _ _ _ _)
      | (with_reducible exact expr_May.mono _ _ _ _ _)
      | (with_reducible exact expr_Names.mono _ _ _ _ _)
      | (with_reducible exact prog_uses.mono _ _)
      | (with_reducible exact slices_Contains_string_string.mono _ _ _)
      | (with_reducible exact LeO.refl _)
      | (with_reducible exact LeO.none _)
      | (with_reducible refine LeO.ite ?_ ?_)
      | (with_reducible refine LeO.bind ?_ (fun _ => ?_))
      | exact ih0 _ _ _ _ _ _ _ _ _ _ _ _ _ _
      | exact ih1 _ _ _ _ _ _ _ _ _ _ _ _
      | exact ih2 _ _ _ _ _ _
      | exact ih3 _ _ _ _ _ _ _ _ _ _ _ _ _ _ _
      | exact ih4 _ _ _ _ _ _ _ _ _ _ _ _ _
      | exact expr_May.mono _ _ _ _ _
      | exact expr_Names.mono _ _ _ _ _
      | exact prog_uses.mono _ _
      | exact slices_Contains_string_string.mono _ _ _
      | exact LeO.none _
      | refine LeO.ite ?_ ?_
      | refine LeO.bind ?_ (fun _ => ?_)
    · intro y0 y1 y2 y3 y4 y5 y6 y7 y8 y9 y10 y11
      unfold prog_names_step.j3
      repeat' first
      | (with_reducible exact ih0 _ _ _ _ _ _ _ _ _ _ _ _ _ _)
      | (with_reducible exact ih1 _ _ _ _ _ _ _ _ _ _ _ _)
      | (with_reducible exact ih2 _ _ _ _ _ _)
      | (with_reducible exact ih3 _ _ _ _ _ _ _ _ _ _ _ _ _ _ _)
      | (with_reducible exact ih4 _ _ _ _ _ _ _ _ _ _ _ _ _)
      | (with_reducible exact expr_May.mono _ _ _ _ _)
      | (with_reducible exact expr_Names.mono _ _ _ _ _)
      | (with_reducible exact prog_uses.mono _ _)
      | (with_reducible exact slices_Contains_string_string.mono _ _ _)
      | (with_reducible exact LeO.refl _)
      | (with_reducible exact LeO.none _)
      | (with_reducible refine LeO.ite ?_ ?_)
      | (with_reducible refine LeO.bind ?_ (fun _ => ?_))
      | exact ih0 _ _ _ _ _ _ _ _ _ _ _ _ _ _
      | exact ih1 _ _ _ _ _ _ _ _ _ _ _ _
      | exact ih2 _ _ _ _ _ _
      | exact ih3 _ _ _ _ _ _ _ _ _ _ _ _ _ _ _
      | exact ih4 _ _ _ _ _ _ _ _ _ _ _ _ _
      | exact expr_May.mono _ _ _ _ _
      | exact expr_Names.mono _ _ _ _ _
      | exact prog_uses.mono _ _
      | exact slices_Contains_string_string.mono _ _ _
      | exact LeO.none _
      | refine LeO.ite ?_ ?_
      | refine LeO.bind ?_ (fun _ => ?_)
    · intro y0 y1 y2 y3 y4 y5
      unfold prog_names_step.l0
      repeat' first
      | (with_reducible exact ih0 _ _ _ _ _ _ _ _ _ _ _ _ _ _)
      | (with_reducible exact ih1 _ _ _ _ _ _ _ _ _ _ _ _)
      | (with_reducible exact ih2 _ _ _ _ _ _)
      | (with_reducible exact ih3 _ _ _ _ _ _ _ _ _ _ _ _ _ _ _)
      | (with_reducible exact ih4 _ _ _ _ _ _ _ _ _ _ _ _ _)
      | (with_reducible exact expr_May.mono _ _ _ _ _)
      | (with_reducible exact expr_Names.mono _ _ _ _ _)
      | (with_reducible exact prog_uses.mono _ _)
      | (with_reducible exact slices_Contains_string_string.mono _ _ _)
      | (with_reducible exact LeO.refl _)
      | (with_reducible exact LeO.none _)
      | (with_reducible refine LeO.ite ?_ ?_)
      | (with_reducible refine LeO.bind ?_ (fun _ => ?_))
      | exact ih0 _ _ _ _ _ _ _ _ _ _ _ _ _ _
      | exact ih1 _ _ _ _ _ _ _ _ _ _ _ _
      | exact ih2 _ _ _ _ _ _
      | exact ih3 _ _ _ _ _ _ _ _ _ _ _ _ _ _ _
      | exact ih4 _ _ _ _ _ _ _ _ _ _ _ _ _
      | exact expr_May.mono _ _ _ _ _
      | exact expr_Names.mono _ _ _ _ _
      | exact prog_uses.mono _ _
      | exact slices_Contains_string_string.mono _ _ _
      | exact LeO.none _
      | refine LeO.ite ?_ ?_
      | refine LeO.bind ?_ (fun _ => ?_)
    · intro y0 y1 y2 y3 y4 y5 y6 y7 y8 y9 y10 y11 y12 y13 y14
      unfold prog_names_step.j1
      repeat' first
      | (with_reducible exact ih0 _ _ _ _ _ _ _ _ _ _ _ _ _ _)
      | (with_reducible exact ih1 _ _ _ _ _ _ _ _ _ _ _ _)
      | (with_reducible exact ih2 _ _ _ _ _ _)
      | (with_reducible exact ih3 _ _ _ _ _ _ _ _ _ _ _ _ _ _ _)
      | (with_reducible exact ih4 _ _ _ _ _ _ _ _ _ _ _ _ _)
      | (with_reducible exact expr_May.mono _ _ _ _ _)
      | (with_reducible exact expr_Names.mono _ _ _ _ _)
      | (with_reducible exact prog_uses.mono _ _)
      | (with_reducible exact slices_Contains_string_string.mono _ _ _)
      | (with_reducible exact LeO.refl _)
      | (with_reducible exact LeO.none _)
      | (with_reducible refine LeO.ite ?_ ?_)
      | (with_reducible refine LeO.bind ?_ (fun _ => ?_))
      | exact ih0 _ _ _ _ _ _ _ _ _ _ _ _ _ _
      | exact ih1 _ _ _ _ _ _ _ _ _ _ _ _
      | exact ih2 _ _ _ _ _ _
      | exact ih3 _ _ _ _ _ _ _ _ _ _ _ _ _ _ _
      | exact ih4 _ _ _ _ _ _ _ _ _ _ _ _ _
      | exact expr_May.mono _ _ _ _ _
      | exact expr_Names.mono _ _ _ _ _
      | exact prog_uses.mono _ _
      | exact slices_Contains_string_string.mono _ _ _
      | exact LeO.none _
      | refine LeO.ite ?_ ?_
      | refine LeO.bind ?_ (fun _ => ?_)
    intro y0 y1 y2 y3 y4 y5 y6 y7 y8 y9 y10 y11 y12
    unfold prog_names_step.j2
    repeat' first
    | (with_reducible exact ih0 _ _ _ _ _ _ _ _ _ _ _ _ _ _)
    | (with_reducible exact ih1 _ _ _ _ _ _ _ _ _ _ _ _)
    | (with_reducible exact ih2 _ _ _ _ _ _)
    | (with_reducible exact ih3 _ _ _ _ _ _ _ _ _ _ _ _ _ _ _)
    | (with_reducible exact ih4 _ _ _ _ _ _ _ _ _ _ _ _ _)
    | (with_reducible exact expr_May.mono _ _ _ _ _)
    | (with_reducible exact expr_Names.mono _ _ _ _ _)
    | (with_reducible exact prog_uses.mono _ _)
    | (with_reducible exact slices_Contains_string_string.mono _ _ _)
    | (with_reducible exact LeO.refl _)
    | (with_reducible exact LeO.none _)
    | (with_reducible refine LeO.ite ?_ ?_)
    | (with_reducible refine LeO.bind ?_ (fun _ => ?_))
    | exact ih0 _ _ _ _ _ _ _ _ _ _ _ _ _ _
    | exact ih1 _ _ _ _ _ _ _ _ _ _ _ _
    | exact ih2 _ _ _ _ _ _
    | exact ih3 _ _ _ _ _ _ _ _ _ _ _ _ _ _ _
    | exact ih4 _ _ _ _ _ _ _ _ _ _ _ _ _
    | exact expr_May.mono _ _ _ _ _
    | exact expr_Names.mono _ _ _ _ _
    | exact prog_uses.mono _ _
    | exact slices_Contains_string_string.mono _ _ _
    | exact LeO.none _
    | refine LeO.ite ?_ ?_
    | refine LeO.bind ?_ (fun _ => ?_)
theorem prog_names_step.mono : ∀ a0 a1 a2 a3 a4 a5 a6 a7 a8 a9 a10 a11 k, LeO (prog_names_step.f k a0 a1 a2 a3 a4 a5 a6 a7 a8 a9 a10 a11) (prog_names_step.f (k + 1) a0 a1 a2 a3 a4 a5 a6 a7 a8 a9 a10 a11) := by
  intro a0 a1 a2 a3 a4 a5 a6 a7 a8 a9 a10 a11 k
  obtain ⟨ih0, ih1, ih2, ih3, ih4⟩ := prog_names_step.mono_l k
  unfold prog_names_step.f
  repeat' first
      | (with_reducible exact ih0 _ _ _ _ _ _ _ _ _ _ _ _ _ _)
      | (with_reducible exact ih1 _ _ _ _ _ _ _ _ _ _ _ _)
      | (with_reducible exact ih2 _ _ _ _ _ _)
      | (with_reducible exact ih3 _ _ _ _ _ _ _ _ _ _ _ _ _ _ _)
      | (with_reducible exact ih4 _ _ _ _ _ _ _ _ _ _ _ _ _)
      | (with_reducible exact expr_May.mono _ _ _ _ _)
      | (with_reducible exact expr_Names.mono _ _ _ _ _)
      | (with_reducible exact prog_uses.mono _ _)
      | (with_reducible exact slices_Contains_string_string.mono _ _ _)
      | (with_reducible exact LeO.refl _)
      | (with_reducible exact LeO.none _)
      | (with_reducible refine LeO.ite ?_ ?_)
      | (with_reducible refine LeO.bind ?_ (fun _ => ?_))
      | exact ih0 _ _ _ _ _ _ _ _ _ _ _ _ _ _
      | exact ih1 _ _ _ _ _ _ _ _ _ _ _ _
      | exact ih2 _ _ _ _ _ _
      | exact ih3 _ _ _ _ _ _ _ _ _ _ _ _ _ _ _
      | exact ih4 _ _ _ _ _ _ _ _ _ _ _ _ _
      | exact expr_May.mono _ _ _ _ _
      | exact expr_Names.mono _ _ _ _ _
      | exact prog_uses.mono _ _
      | exact slices_Contains_string_string.mono _ _ _
      | exact LeO.none _
      | refine LeO.ite ?_ ?_
      | refine LeO.bind ?_ (fun _ => ?_)
set_option maxHeartbeats 8000000 in
set_option maxRecDepth 100000 in
theorem prog_names_step.calls (k : Nat) (A0_0 : Option Addr) (c0_0 : Nat) (l0_0 : List ByteArray) (A0_1 : Option Addr) (c0_1 : Nat) (l0_1 : List ByteArray) (A0_2 : Option Addr) (c0_2 : Nat) (l0_2 : List ByteArray) (a1_0 : Int) (a1_1 : ByteArray) (a1_2 : ByteArray) (a1_3 : Int) (a1_4 : Int) (a1_5 : ByteArray) (A1_6 : Option Addr) (c1_6 : Nat) (l1_6 : List (S34)) (a1_7 : Int) (a2 : Int) (r : Int) (w : World) (hr0_0 : Kd.C Kd.string w A0_0 l0_0.length l0_0) (hc0_0 : l0_0.length ≤ c0_0) (hr0_1 : Kd.C Kd.string w A0_1 l0_1.length l0_1) (hc0_1 : l0_1.length ≤ c0_1) (hr0_2 : Kd.C Kd.string w A0_2 l0_2.length l0_2) (hc0_2 : l0_2.length ≤ c0_2) (hr1_6 : Kd.C k34 w A1_6 l1_6.length l1_6) (hc1_6 : l1_6.length ≤ c1_6) (h : prog_names_step.f k l0_0 l0_1 l0_2 a1_0 a1_1 a1_2 a1_3 a1_4 a1_5 l1_6 a1_7 a2 = some r) (hT : UT w) :
    Calls Tryd.prog 73 #[.agg #[.slice A0_0 l0_0.length c0_0, .slice A0_1 l0_1.length c0_1, .slice A0_2 l0_2.length c0_2], .agg #[.int .i64 a1_0, .string a1_1, .string a1_2, .int .i64 a1_3, .int .i64 a1_4, .string a1_5, .slice A1_6 l1_6.length c1_6, .int .i64 a1_7], .int .i64 a2] w fun e w' => e = .returned (.int .i64 r) ∧ Below w.heap.size w w' := by
  have HT0 := Aside0.mk hT
  clear hT
  have hu121 := Tryd.underlying121
  have hu67 := Tryd.underlying67
  have hu34 := Tryd.underlying34
  have HR0_0 := Aside0.mk hr0_0
  have HC0_0 := Aside0.mk hc0_0
  clear hr0_0 hc0_0
  have HR0_1 := Aside0.mk hr0_1
  have HC0_1 := Aside0.mk hc0_1
  clear hr0_1 hc0_1
  have HR0_2 := Aside0.mk hr0_2
  have HC0_2 := Aside0.mk hc0_2
  clear hr0_2 hc0_2
  have HR1_6 := Aside0.mk hr1_6
  have HC1_6 := Aside0.mk hc1_6
  clear hr1_6 hc1_6
  have HB := Aside0.mk (Below.refl w.heap.size w)
  have H : ((prog_uses.f k a1_0).bind fun bt103 => (if bt103.2.2.2.2 = true then (if bt103.1 = true then (if bt103.2.1 = true then (if bt103.2.2.1 = true then (if bt103.2.2.2.1 = true then (prog_names_step.j0 k a2 bt103.2.2.1 false l0_0 l0_1 l0_2 a1_0 a1_1 a1_2 a1_3 a1_4 a1_5 l1_6 a1_7) else (prog_names_step.j0 k a2 bt103.2.2.1 (a1_7 != 0) l0_0 l0_1 l0_2 a1_0 a1_1 a1_2 a1_3 a1_4 a1_5 l1_6 a1_7)) else ((prog_blank.f a1_3 a1_4 a1_5 l1_6).bind fun t108 => (if t108 = true then (if bt103.2.2.2.1 = true then (prog_names_step.j0 k a2 bt103.2.2.1 false l0_0 l0_1 l0_2 a1_0 a1_1 a1_2 a1_3 a1_4 a1_5 l1_6 a1_7) else (prog_names_step.j0 k a2 bt103.2.2.1 (a1_7 != 0) l0_0 l0_1 l0_2 a1_0 a1_1 a1_2 a1_3 a1_4 a1_5 l1_6 a1_7)) else (prog_names_step.j0 k a2 bt103.2.2.1 true l0_0 l0_1 l0_2 a1_0 a1_1 a1_2 a1_3 a1_4 a1_5 l1_6 a1_7)))) else (if a1_2.toList = ([] : List UInt8) then (if bt103.2.2.1 = true then (if bt103.2.2.2.1 = true then (prog_names_step.j0 k a2 bt103.2.2.1 false l0_0 l0_1 l0_2 a1_0 a1_1 a1_2 a1_3 a1_4 a1_5 l1_6 a1_7) else (prog_names_step.j0 k a2 bt103.2.2.1 (a1_7 != 0) l0_0 l0_1 l0_2 a1_0 a1_1 a1_2 a1_3 a1_4 a1_5 l1_6 a1_7)) else ((prog_blank.f a1_3 a1_4 a1_5 l1_6).bind fun t109 => (if t109 = true then (if bt103.2.2.2.1 = true then (prog_names_step.j0 k a2 bt103.2.2.1 false l0_0 l0_1 l0_2 a1_0 a1_1 a1_2 a1_3 a1_4 a1_5 l1_6 a1_7) else (prog_names_step.j0 k a2 bt103.2.2.1 (a1_7 != 0) l0_0 l0_1 l0_2 a1_0 a1_1 a1_2 a1_3 a1_4 a1_5 l1_6 a1_7)) else (prog_names_step.j0 k a2 bt103.2.2.1 true l0_0 l0_1 l0_2 a1_0 a1_1 a1_2 a1_3 a1_4 a1_5 l1_6 a1_7)))) else (prog_names_step.j0 k a2 bt103.2.2.1 true l0_0 l0_1 l0_2 a1_0 a1_1 a1_2 a1_3 a1_4 a1_5 l1_6 a1_7))) else (if a1_1.toList = ([] : List UInt8) then (if bt103.2.1 = true then (if bt103.2.2.1 = true then (if bt103.2.2.2.1 = true then (prog_names_step.j0 k a2 bt103.2.2.1 false l0_0 l0_1 l0_2 a1_0 a1_1 a1_2 a1_3 a1_4 a1_5 l1_6 a1_7) else (prog_names_step.j0 k a2 bt103.2.2.1 (a1_7 != 0) l0_0 l0_1 l0_2 a1_0 a1_1 a1_2 a1_3 a1_4 a1_5 l1_6 a1_7)) else ((prog_blank.f a1_3 a1_4 a1_5 l1_6).bind fun t110 => (if t110 = true then (if bt103.2.2.2.1 = true then (prog_names_step.j0 k a2 bt103.2.2.1 false l0_0 l0_1 l0_2 a1_0 a1_1 a1_2 a1_3 a1_4 a1_5 l1_6 a1_7) else (prog_names_step.j0 k a2 bt103.2.2.1 (a1_7 != 0) l0_0 l0_1 l0_2 a1_0 a1_1 a1_2 a1_3 a1_4 a1_5 l1_6 a1_7)) else (prog_names_step.j0 k a2 bt103.2.2.1 true l0_0 l0_1 l0_2 a1_0 a1_1 a1_2 a1_3 a1_4 a1_5 l1_6 a1_7)))) else (if a1_2.toList = ([] : List UInt8) then (if bt103.2.2.1 = true then (if bt103.2.2.2.1 = true then (prog_names_step.j0 k a2 bt103.2.2.1 false l0_0 l0_1 l0_2 a1_0 a1_1 a1_2 a1_3 a1_4 a1_5 l1_6 a1_7) else (prog_names_step.j0 k a2 bt103.2.2.1 (a1_7 != 0) l0_0 l0_1 l0_2 a1_0 a1_1 a1_2 a1_3 a1_4 a1_5 l1_6 a1_7)) else ((prog_blank.f a1_3 a1_4 a1_5 l1_6).bind fun t111 => (if t111 = true then (if bt103.2.2.2.1 = true then (prog_names_step.j0 k a2 bt103.2.2.1 false l0_0 l0_1 l0_2 a1_0 a1_1 a1_2 a1_3 a1_4 a1_5 l1_6 a1_7) else (prog_names_step.j0 k a2 bt103.2.2.1 (a1_7 != 0) l0_0 l0_1 l0_2 a1_0 a1_1 a1_2 a1_3 a1_4 a1_5 l1_6 a1_7)) else (prog_names_step.j0 k a2 bt103.2.2.1 true l0_0 l0_1 l0_2 a1_0 a1_1 a1_2 a1_3 a1_4 a1_5 l1_6 a1_7)))) else (prog_names_step.j0 k a2 bt103.2.2.1 true l0_0 l0_1 l0_2 a1_0 a1_1 a1_2 a1_3 a1_4 a1_5 l1_6 a1_7))) else (prog_names_step.j0 k a2 bt103.2.2.1 true l0_0 l0_1 l0_2 a1_0 a1_1 a1_2 a1_3 a1_4 a1_5 l1_6 a1_7))) else (prog_names_step.j0 k a2 bt103.2.2.1 true l0_0 l0_1 l0_2 a1_0 a1_1 a1_2 a1_3 a1_4 a1_5 l1_6 a1_7))) = some r := h
  clear h
  replace H := qi H
  obtain ⟨⟨t103, t104, t105, t106, t107⟩, A4, H⟩ := H
  replace H : (if t107 = true then (if t103 = true then (if t104 = true then (if t105 = true then (if t106 = true then (prog_names_step.j0 k a2 t105 false l0_0 l0_1 l0_2 a1_0 a1_1 a1_2 a1_3 a1_4 a1_5 l1_6 a1_7) else (prog_names_step.j0 k a2 t105 (a1_7 != 0) l0_0 l0_1 l0_2 a1_0 a1_1 a1_2 a1_3 a1_4 a1_5 l1_6 a1_7)) else ((prog_blank.f a1_3 a1_4 a1_5 l1_6).bind fun t108 => (if t108 = true then (if t106 = true then (prog_names_step.j0 k a2 t105 false l0_0 l0_1 l0_2 a1_0 a1_1 a1_2 a1_3 a1_4 a1_5 l1_6 a1_7) else (prog_names_step.j0 k a2 t105 (a1_7 != 0) l0_0 l0_1 l0_2 a1_0 a1_1 a1_2 a1_3 a1_4 a1_5 l1_6 a1_7)) else (prog_names_step.j0 k a2 t105 true l0_0 l0_1 l0_2 a1_0 a1_1 a1_2 a1_3 a1_4 a1_5 l1_6 a1_7)))) else (if a1_2.toList = ([] : List UInt8) then (if t105 = true then (if t106 = true then (prog_names_step.j0 k a2 t105 false l0_0 l0_1 l0_2 a1_0 a1_1 a1_2 a1_3 a1_4 a1_5 l1_6 a1_7) else (prog_names_step.j0 k a2 t105 (a1_7 != 0) l0_0 l0_1 l0_2 a1_0 a1_1 a1_2 a1_3 a1_4 a1_5 l1_6 a1_7)) else ((prog_blank.f a1_3 a1_4 a1_5 l1_6).bind fun t109 => (if t109 = true then (if t106 = true then (prog_names_step.j0 k a2 t105 false l0_0 l0_1 l0_2 a1_0 a1_1 a1_2 a1_3 a1_4 a1_5 l1_6 a1_7) else (prog_names_step.j0 k a2 t105 (a1_7 != 0) l0_0 l0_1 l0_2 a1_0 a1_1 a1_2 a1_3 a1_4 a1_5 l1_6 a1_7)) else (prog_names_step.j0 k a2 t105 true l0_0 l0_1 l0_2 a1_0 a1_1 a1_2 a1_3 a1_4 a1_5 l1_6 a1_7)))) else (prog_names_step.j0 k a2 t105 true l0_0 l0_1 l0_2 a1_0 a1_1 a1_2 a1_3 a1_4 a1_5 l1_6 a1_7))) else (if a1_1.toList = ([] : List UInt8) then (if t104 = true then (if t105 = true then (if t106 = true then (prog_names_step.j0 k a2 t105 false l0_0 l0_1 l0_2 a1_0 a1_1 a1_2 a1_3 a1_4 a1_5 l1_6 a1_7) else (prog_names_step.j0 k a2 t105 (a1_7 != 0) l0_0 l0_1 l0_2 a1_0 a1_1 a1_2 a1_3 a1_4 a1_5 l1_6 a1_7)) else ((prog_blank.f a1_3 a1_4 a1_5 l1_6).bind fun t110 => (if t110 = true then (if t106 = true then (prog_names_step.j0 k a2 t105 false l0_0 l0_1 l0_2 a1_0 a1_1 a1_2 a1_3 a1_4 a1_5 l1_6 a1_7) else (prog_names_step.j0 k a2 t105 (a1_7 != 0) l0_0 l0_1 l0_2 a1_0 a1_1 a1_2 a1_3 a1_4 a1_5 l1_6 a1_7)) else (prog_names_step.j0 k a2 t105 true l0_0 l0_1 l0_2 a1_0 a1_1 a1_2 a1_3 a1_4 a1_5 l1_6 a1_7)))) else (if a1_2.toList = ([] : List UInt8) then (if t105 = true then (if t106 = true then (prog_names_step.j0 k a2 t105 false l0_0 l0_1 l0_2 a1_0 a1_1 a1_2 a1_3 a1_4 a1_5 l1_6 a1_7) else (prog_names_step.j0 k a2 t105 (a1_7 != 0) l0_0 l0_1 l0_2 a1_0 a1_1 a1_2 a1_3 a1_4 a1_5 l1_6 a1_7)) else ((prog_blank.f a1_3 a1_4 a1_5 l1_6).bind fun t111 => (if t111 = true then (if t106 = true then (prog_names_step.j0 k a2 t105 false l0_0 l0_1 l0_2 a1_0 a1_1 a1_2 a1_3 a1_4 a1_5 l1_6 a1_7) else (prog_names_step.j0 k a2 t105 (a1_7 != 0) l0_0 l0_1 l0_2 a1_0 a1_1 a1_2 a1_3 a1_4 a1_5 l1_6 a1_7)) else (prog_names_step.j0 k a2 t105 true l0_0 l0_1 l0_2 a1_0 a1_1 a1_2 a1_3 a1_4 a1_5 l1_6 a1_7)))) else (prog_names_step.j0 k a2 t105 true l0_0 l0_1 l0_2 a1_0 a1_1 a1_2 a1_3 a1_4 a1_5 l1_6 a1_7))) else (prog_names_step.j0 k a2 t105 true l0_0 l0_1 l0_2 a1_0 a1_1 a1_2 a1_3 a1_4 a1_5 l1_6 a1_7))) else (prog_names_step.j0 k a2 t105 true l0_0 l0_1 l0_2 a1_0 a1_1 a1_2 a1_3 a1_4 a1_5 l1_6 a1_7)) = some r := H
  have HC5 := Aside0.mk H
  clear H
  go_enter Tryd.func73, Tryd.ntmps73
  go_upto_region 2 with (first | ((with_reducible refine gate_dst (N := 3) rfl ?_); refine box_event ?hg (N := 3) ?hd (cs := #[.slice A0_0 l0_0.length c0_0, .slice A0_1 l0_1.length c0_1, .slice A0_2 l0_2.length c0_2]) (t := 121) ?hr ?_; (case hd => rfl); (case hg => rfl); (case hr => first | (go_simp; done) | (go_simp; rfl)); intro gb101 hg w6 hbox hb; have n0_ := qs hb; have n1_ := Aside0.mk (hbox); have n2_ := Aside0.mk ((by rw [hg]; exact (below_size qb) : w.heap.size ≤ gb101)); have n3_ := Aside0.mk ((by rw [hg]; exact (below_size qb) : w.heap.size ≤ gb101)); clear HB; have HB := n0_; have BK101 := n1_; have GW101 := n2_; have GE101 := n3_; clear n0_ n1_ n2_ n3_; clear hb hbox hg) | ((with_reducible refine gate_dst (N := 4) rfl ?_); refine box_event ?hg (N := 4) ?hd (cs := #[.int .i64 a1_0, .string a1_1, .string a1_2, .int .i64 a1_3, .int .i64 a1_4, .string a1_5, .slice A1_6 l1_6.length c1_6, .int .i64 a1_7]) (t := 67) ?hr ?_; (case hd => rfl); (case hg => rfl); (case hr => first | (go_simp; done) | (go_simp; rfl)); intro gb102 hg w7 hbox hb; have n0_ := qn101 (g := gb101) hb; have n1_ := qs hb; have n2_ := Aside0.mk (hbox); have n3_ := Aside0.mk ((by rw [hg]; exact (below_size qb) : w.heap.size ≤ gb102)); have n4_ := Aside0.mk ((by rw [hg]; exact (below_size qb) : w.heap.size ≤ gb102)); have n5_ := Aside0.mk ((by rw [hg]; exact Nat.ne_of_lt (blk_lt (g := gb101) (o := .cells #[.slice A0_0 l0_0.length c0_0, .slice A0_1 l0_1.length c0_1, .slice A0_2 l0_2.length c0_2] 121 (0, 0)) (by (with_reducible repeat (first | refine blk_drewN ?_ _ | refine blk_drew ?_ | refine blk_alloc ?_ _)); exact BK101.out)) : gb101 ≠ gb102)); have n6_ := Aside0.mk ((by rw [hg]; exact Nat.ne_of_gt (blk_lt (g := gb101) (o := .cells #[.slice A0_0 l0_0.length c0_0, .slice A0_1 l0_1.length c0_1, .slice A0_2 l0_2.length c0_2] 121 (0, 0)) (by (with_reducible repeat (first | refine blk_drewN ?_ _ | refine blk_drew ?_ | refine blk_alloc ?_ _)); exact BK101.out)) : gb102 ≠ gb101)); clear BK101; clear HB; have BK101 := n0_; have HB := n1_; have BK102 := n2_; have GW102 := n3_; have GE102 := n4_; have NB101_102 := n5_; have NB102_101 := n6_; clear n0_ n1_ n2_ n3_ n4_ n5_ n6_; clear hb hbox hg; have hnb8 := NB102_101.out; have hnc8 := NB101_102.out; obtain ⟨_, _, _, _, _, _, _, _, _, _, _, _, _, _, _, _⟩ := q8 BK102.out) | ((with_reducible refine gate_callee (f := 101) rfl ?_); refine goesL_ (some 19) rfl rfl Tryd.func101 (by kernel_rfl) rfl #[.int .i64 a1_0] rfl qm ?_; (with_reducible refine (prog_uses.calls k a1_0 t103 t104 t105 t106 t107 _ A4.out).mono ?_); rintro e w' ⟨rfl, ⟨nd, rfl⟩⟩; refine ⟨_, rfl, ?_⟩))
  (try simp only [Act.put, List.setIfInBounds_toArray, List.set_cons_zero, List.set_cons_succ])
  go_cut [63] (fun v63 wc => ∃ (kq : Nat) (x63_4 : Bool), v63 = .bool x63_4 ∧ Aside0 (prog_names_step.j0 kq a2 t105 x63_4 l0_0 l0_1 l0_2 a1_0 a1_1 a1_2 a1_3 a1_4 a1_5 l1_6 a1_7 = some r) ∧ Aside0 (kq ≤ k) ∧ Aside0 (wc.heap[gb101]? = some (.cells #[(.slice A0_0 l0_0.length c0_0), (.slice A0_1 l0_1.length c0_1), (.slice A0_2 l0_2.length c0_2)] 121 (0, 0))) ∧ Aside0 (wc.heap[gb102]? = some (.cells #[.int .i64 a1_0, .string a1_1, .string a1_2, .int .i64 a1_3, .int .i64 a1_4, .string a1_5, (.slice A1_6 l1_6.length c1_6), .int .i64 a1_7] 67 (0, 0))) ∧ Aside0 (Below w.heap.size w wc))
  case first =>
    have H := HC5.out
    clear HC5
    by_cases c10 : t107 = true
    · subst c10
      rw [if_pos rfl] at H
      by_cases c11 : t103 = true
      · subst c11
        rw [if_pos rfl] at H
        by_cases c12 : t104 = true
        · subst c12
          rw [if_pos rfl] at H
          by_cases c13 : t105 = true
          · subst c13
            rw [if_pos rfl] at H
            by_cases c14 : t106 = true
            · subst c14
              rw [if_pos rfl] at H
              have H' := Aside0.mk H
              clear H
              as_aux_lemma =>
                go_wp2
                go_meet
                case rel => exact ⟨_, (false), qv, H', ql, qk101, qk102, qB⟩
            replace c14 := Bool.eq_false_iff.mpr c14
            subst c14
            rw [if_neg qf] at H
            have H' := Aside0.mk H
            clear H
            have hnb15 := NB102_101.out
            have hnc15 := NB101_102.out
            obtain ⟨_, _, _, _, _, _, _, _, _, _, _, _, _, _, _, _⟩ := q8 BK102.out
            as_aux_lemma =>
              go_wp2
              go_meet
              case rel => exact ⟨_, ((a1_7 != 0)), qv, H', ql, qk101, qk102, qB⟩
          replace c13 := Bool.eq_false_iff.mpr c13
          subst c13
          rw [if_neg qf] at H
          replace H := qi H
          obtain ⟨t108, A17, H⟩ := H
          by_cases c18 : t108 = true
          · subst c18
            rw [if_pos rfl] at H
            by_cases c19 : t106 = true
            · subst c19
              rw [if_pos rfl] at H
              have H' := Aside0.mk H
              clear H
              have hnb20 := NB102_101.out
              have hnc20 := NB101_102.out
              obtain ⟨_, _, _, _, _, _, _, _, _, _, _, _, _, _, _, _⟩ := q8 BK102.out
              as_aux_lemma =>
                go_wp2_with (first | (go_at_call 104; (with_reducible refine (prog_blank.calls a1_3 a1_4 a1_5 _ _ l1_6 true _ ?side1 ?side2 A17.out).mono ?_); (case side1 => exact qC HR1_6.out); (case side2 => exact HC1_6.out); rintro e w22 ⟨rfl, hb⟩; have n0_ := qn101 (g := gb101) hb; have n1_ := qn102 (g := gb102) hb; have n2_ := qs hb; clear BK101; clear BK102; clear HB; have BK101 := n0_; have BK102 := n1_; have HB := n2_; clear n0_ n1_ n2_; (try clear hb)))
                go_meet
                case rel => exact ⟨_, (false), qv, H', ql, qk101, qk102, qB⟩
            replace c19 := Bool.eq_false_iff.mpr c19
            subst c19
            rw [if_neg qf] at H
            have H' := Aside0.mk H
            clear H
            have hnb23 := NB102_101.out
            have hnc23 := NB101_102.out
            obtain ⟨_, _, _, _, _, _, _, _, _, _, _, _, _, _, _, _⟩ := q8 BK102.out
            as_aux_lemma =>
              go_wp2_with (first | (go_at_call 104; (with_reducible refine (prog_blank.calls a1_3 a1_4 a1_5 _ _ l1_6 true _ ?side1 ?side2 A17.out).mono ?_); (case side1 => exact qC HR1_6.out); (case side2 => exact HC1_6.out); rintro e w25 ⟨rfl, hb⟩; have n0_ := qn101 (g := gb101) hb; have n1_ := qn102 (g := gb102) hb; have n2_ := qs hb; clear BK101; clear BK102; clear HB; have BK101 := n0_; have BK102 := n1_; have HB := n2_; clear n0_ n1_ n2_; (try clear hb); obtain ⟨_, _, _, _, _, _, _, _, _, _, _, _, _, _, _, _⟩ := q8 BK102.out))
              go_meet
              case rel => exact ⟨_, ((a1_7 != 0)), qv, H', ql, qk101, qk102, qB⟩
          replace c18 := Bool.eq_false_iff.mpr c18
          subst c18
          rw [if_neg qf] at H
          have H' := Aside0.mk H
          clear H
          have hnb27 := NB102_101.out
          have hnc27 := NB101_102.out
          obtain ⟨_, _, _, _, _, _, _, _, _, _, _, _, _, _, _, _⟩ := q8 BK102.out
          as_aux_lemma =>
            go_wp2_with (first | (go_at_call 104; (with_reducible refine (prog_blank.calls a1_3 a1_4 a1_5 _ _ l1_6 false _ ?side1 ?side2 A17.out).mono ?_); (case side1 => exact qC HR1_6.out); (case side2 => exact HC1_6.out); rintro e w29 ⟨rfl, hb⟩; have n0_ := qn101 (g := gb101) hb; have n1_ := qn102 (g := gb102) hb; have n2_ := qs hb; clear BK101; clear BK102; clear HB; have BK101 := n0_; have BK102 := n1_; have HB := n2_; clear n0_ n1_ n2_; (try clear hb)))
            go_meet
            case rel => exact ⟨_, (true), qv, H', ql, qk101, qk102, qB⟩
        replace c12 := Bool.eq_false_iff.mpr c12
        subst c12
        rw [if_neg qf] at H
        by_cases c30 : a1_2.toList = ([] : List UInt8)
        · rw [if_pos c30] at H
          obtain ⟨c30b0, c30b1⟩ := qe c30
          clear c30
          (first | rw [c30b0] | (simp only [i64_w, i32_w]; rw [c30b0]) | skip)
          by_cases c31 : t105 = true
          · subst c31
            rw [if_pos rfl] at H
            by_cases c32 : t106 = true
            · subst c32
              rw [if_pos rfl] at H
              have H' := Aside0.mk H
              clear H
              have hnb33 := NB102_101.out
              have hnc33 := NB101_102.out
              obtain ⟨_, _, _, _, _, _, _, _, _, _, _, _, _, _, _, _⟩ := q8 BK102.out
              as_aux_lemma =>
                go_wp2
                go_meet
                case rel => exact ⟨_, (false), qv, H', ql, qk101, qk102, qB⟩
            replace c32 := Bool.eq_false_iff.mpr c32
            subst c32
            rw [if_neg qf] at H
            have H' := Aside0.mk H
            clear H
            have hnb35 := NB102_101.out
            have hnc35 := NB101_102.out
            obtain ⟨_, _, _, _, _, _, _, _, _, _, _, _, _, _, _, _⟩ := q8 BK102.out
            as_aux_lemma =>
              go_wp2
              go_meet
              case rel => exact ⟨_, ((a1_7 != 0)), qv, H', ql, qk101, qk102, qB⟩
          replace c31 := Bool.eq_false_iff.mpr c31
          subst c31
          rw [if_neg qf] at H
          replace H := qi H
          obtain ⟨t109, A37, H⟩ := H
          by_cases c38 : t109 = true
          · subst c38
            rw [if_pos rfl] at H
            by_cases c39 : t106 = true
            · subst c39
              rw [if_pos rfl] at H
              have H' := Aside0.mk H
              clear H
              have hnb40 := NB102_101.out
              have hnc40 := NB101_102.out
              obtain ⟨_, _, _, _, _, _, _, _, _, _, _, _, _, _, _, _⟩ := q8 BK102.out
              as_aux_lemma =>
                go_wp2_with (first | (go_at_call 104; (with_reducible refine (prog_blank.calls a1_3 a1_4 a1_5 _ _ l1_6 true _ ?side1 ?side2 A37.out).mono ?_); (case side1 => exact qC HR1_6.out); (case side2 => exact HC1_6.out); rintro e w42 ⟨rfl, hb⟩; have n0_ := qn101 (g := gb101) hb; have n1_ := qn102 (g := gb102) hb; have n2_ := qs hb; clear BK101; clear BK102; clear HB; have BK101 := n0_; have BK102 := n1_; have HB := n2_; clear n0_ n1_ n2_; (try clear hb)))
                go_meet
                case rel => exact ⟨_, (false), qv, H', ql, qk101, qk102, qB⟩
            replace c39 := Bool.eq_false_iff.mpr c39
            subst c39
            rw [if_neg qf] at H
            have H' := Aside0.mk H
            clear H
            have hnb43 := NB102_101.out
            have hnc43 := NB101_102.out
            obtain ⟨_, _, _, _, _, _, _, _, _, _, _, _, _, _, _, _⟩ := q8 BK102.out
            as_aux_lemma =>
              go_wp2_with (first | (go_at_call 104; (with_reducible refine (prog_blank.calls a1_3 a1_4 a1_5 _ _ l1_6 true _ ?side1 ?side2 A37.out).mono ?_); (case side1 => exact qC HR1_6.out); (case side2 => exact HC1_6.out); rintro e w45 ⟨rfl, hb⟩; have n0_ := qn101 (g := gb101) hb; have n1_ := qn102 (g := gb102) hb; have n2_ := qs hb; clear BK101; clear BK102; clear HB; have BK101 := n0_; have BK102 := n1_; have HB := n2_; clear n0_ n1_ n2_; (try clear hb); obtain ⟨_, _, _, _, _, _, _, _, _, _, _, _, _, _, _, _⟩ := q8 BK102.out))
              go_meet
              case rel => exact ⟨_, ((a1_7 != 0)), qv, H', ql, qk101, qk102, qB⟩
          replace c38 := Bool.eq_false_iff.mpr c38
          subst c38
          rw [if_neg qf] at H
          have H' := Aside0.mk H
          clear H
          have hnb47 := NB102_101.out
          have hnc47 := NB101_102.out
          obtain ⟨_, _, _, _, _, _, _, _, _, _, _, _, _, _, _, _⟩ := q8 BK102.out
          as_aux_lemma =>
            go_wp2_with (first | (go_at_call 104; (with_reducible refine (prog_blank.calls a1_3 a1_4 a1_5 _ _ l1_6 false _ ?side1 ?side2 A37.out).mono ?_); (case side1 => exact qC HR1_6.out); (case side2 => exact HC1_6.out); rintro e w49 ⟨rfl, hb⟩; have n0_ := qn101 (g := gb101) hb; have n1_ := qn102 (g := gb102) hb; have n2_ := qs hb; clear BK101; clear BK102; clear HB; have BK101 := n0_; have BK102 := n1_; have HB := n2_; clear n0_ n1_ n2_; (try clear hb)))
            go_meet
            case rel => exact ⟨_, (true), qv, H', ql, qk101, qk102, qB⟩
        rw [if_neg c30] at H
        obtain ⟨c30b0, c30b1⟩ := qd c30
        (first | rw [c30b0] | (simp only [i64_w, i32_w]; rw [c30b0]) | skip)
        have H' := Aside0.mk H
        clear H
        have hnb50 := NB102_101.out
        have hnc50 := NB101_102.out
        obtain ⟨_, _, _, _, _, _, _, _, _, _, _, _, _, _, _, _⟩ := q8 BK102.out
        as_aux_lemma =>
          go_wp2
          go_meet
          case rel => exact ⟨_, (true), qv, H', ql, qk101, qk102, qB⟩
      replace c11 := Bool.eq_false_iff.mpr c11
      subst c11
      rw [if_neg qf] at H
      by_cases c52 : a1_1.toList = ([] : List UInt8)
      · rw [if_pos c52] at H
        obtain ⟨c52b0, c52b1⟩ := qe c52
        clear c52
        by_cases c53 : t104 = true
        · subst c53
          rw [if_pos rfl] at H
          by_cases c54 : t105 = true
          · subst c54
            rw [if_pos rfl] at H
            by_cases c55 : t106 = true
            · subst c55
              rw [if_pos rfl] at H
              have H' := Aside0.mk H
              clear H
              have hnb56 := NB102_101.out
              have hnc56 := NB101_102.out
              obtain ⟨_, _, _, _, _, _, _, _, _, _, _, _, _, _, _, _⟩ := q8 BK102.out
              as_aux_lemma =>
                go_wp2
                go_meet
                case rel => exact ⟨_, (false), qv, H', ql, qk101, qk102, qB⟩
            replace c55 := Bool.eq_false_iff.mpr c55
            subst c55
            rw [if_neg qf] at H
            have H' := Aside0.mk H
            clear H
            have hnb58 := NB102_101.out
            have hnc58 := NB101_102.out
            obtain ⟨_, _, _, _, _, _, _, _, _, _, _, _, _, _, _, _⟩ := q8 BK102.out
            as_aux_lemma =>
              go_wp2
              go_meet
              case rel => exact ⟨_, ((a1_7 != 0)), qv, H', ql, qk101, qk102, qB⟩
          replace c54 := Bool.eq_false_iff.mpr c54
          subst c54
          rw [if_neg qf] at H
          replace H := qi H
          obtain ⟨t110, A60, H⟩ := H
          by_cases c61 : t110 = true
          · subst c61
            rw [if_pos rfl] at H
            by_cases c62 : t106 = true
            · subst c62
              rw [if_pos rfl] at H
              have H' := Aside0.mk H
              clear H
              have hnb63 := NB102_101.out
              have hnc63 := NB101_102.out
              obtain ⟨_, _, _, _, _, _, _, _, _, _, _, _, _, _, _, _⟩ := q8 BK102.out
              as_aux_lemma =>
                go_wp2_with (first | (go_at_call 104; (with_reducible refine (prog_blank.calls a1_3 a1_4 a1_5 _ _ l1_6 true _ ?side1 ?side2 A60.out).mono ?_); (case side1 => exact qC HR1_6.out); (case side2 => exact HC1_6.out); rintro e w65 ⟨rfl, hb⟩; have n0_ := qn101 (g := gb101) hb; have n1_ := qn102 (g := gb102) hb; have n2_ := qs hb; clear BK101; clear BK102; clear HB; have BK101 := n0_; have BK102 := n1_; have HB := n2_; clear n0_ n1_ n2_; (try clear hb)))
                go_meet
                case rel => exact ⟨_, (false), qv, H', ql, qk101, qk102, qB⟩
            replace c62 := Bool.eq_false_iff.mpr c62
            subst c62
            rw [if_neg qf] at H
            have H' := Aside0.mk H
            clear H
            have hnb66 := NB102_101.out
            have hnc66 := NB101_102.out
            obtain ⟨_, _, _, _, _, _, _, _, _, _, _, _, _, _, _, _⟩ := q8 BK102.out
            as_aux_lemma =>
              go_wp2_with (first | (go_at_call 104; (with_reducible refine (prog_blank.calls a1_3 a1_4 a1_5 _ _ l1_6 true _ ?side1 ?side2 A60.out).mono ?_); (case side1 => exact qC HR1_6.out); (case side2 => exact HC1_6.out); rintro e w68 ⟨rfl, hb⟩; have n0_ := qn101 (g := gb101) hb; have n1_ := qn102 (g := gb102) hb; have n2_ := qs hb; clear BK101; clear BK102; clear HB; have BK101 := n0_; have BK102 := n1_; have HB := n2_; clear n0_ n1_ n2_; (try clear hb); obtain ⟨_, _, _, _, _, _, _, _, _, _, _, _, _, _, _, _⟩ := q8 BK102.out))
              go_meet
              case rel => exact ⟨_, ((a1_7 != 0)), qv, H', ql, qk101, qk102, qB⟩
          replace c61 := Bool.eq_false_iff.mpr c61
          subst c61
          rw [if_neg qf] at H
          have H' := Aside0.mk H
          clear H
          have hnb70 := NB102_101.out
          have hnc70 := NB101_102.out
          obtain ⟨_, _, _, _, _, _, _, _, _, _, _, _, _, _, _, _⟩ := q8 BK102.out
          as_aux_lemma =>
            go_wp2_with (first | (go_at_call 104; (with_reducible refine (prog_blank.calls a1_3 a1_4 a1_5 _ _ l1_6 false _ ?side1 ?side2 A60.out).mono ?_); (case side1 => exact qC HR1_6.out); (case side2 => exact HC1_6.out); rintro e w72 ⟨rfl, hb⟩; have n0_ := qn101 (g := gb101) hb; have n1_ := qn102 (g := gb102) hb; have n2_ := qs hb; clear BK101; clear BK102; clear HB; have BK101 := n0_; have BK102 := n1_; have HB := n2_; clear n0_ n1_ n2_; (try clear hb)))
            go_meet
            case rel => exact ⟨_, (true), qv, H', ql, qk101, qk102, qB⟩
        replace c53 := Bool.eq_false_iff.mpr c53
        subst c53
        rw [if_neg qf] at H
        by_cases c73 : a1_2.toList = ([] : List UInt8)
        · rw [if_pos c73] at H
          obtain ⟨c73b0, c73b1⟩ := qe c73
          clear c73
          by_cases c74 : t105 = true
          · subst c74
            rw [if_pos rfl] at H
            by_cases c75 : t106 = true
            · subst c75
              rw [if_pos rfl] at H
              have H' := Aside0.mk H
              clear H
              have hnb76 := NB102_101.out
              have hnc76 := NB101_102.out
              obtain ⟨_, _, _, _, _, _, _, _, _, _, _, _, _, _, _, _⟩ := q8 BK102.out
              as_aux_lemma =>
                go_wp2
                go_meet
                case rel => exact ⟨_, (false), qv, H', ql, qk101, qk102, qB⟩
            replace c75 := Bool.eq_false_iff.mpr c75
            subst c75
            rw [if_neg qf] at H
            have H' := Aside0.mk H
            clear H
            have hnb78 := NB102_101.out
            have hnc78 := NB101_102.out
            obtain ⟨_, _, _, _, _, _, _, _, _, _, _, _, _, _, _, _⟩ := q8 BK102.out
            as_aux_lemma =>
              go_wp2
              go_meet
              case rel => exact ⟨_, ((a1_7 != 0)), qv, H', ql, qk101, qk102, qB⟩
          replace c74 := Bool.eq_false_iff.mpr c74
          subst c74
          rw [if_neg qf] at H
          replace H := qi H
          obtain ⟨t111, A80, H⟩ := H
          by_cases c81 : t111 = true
          · subst c81
            rw [if_pos rfl] at H
            by_cases c82 : t106 = true
            · subst c82
              rw [if_pos rfl] at H
              have H' := Aside0.mk H
              clear H
              have hnb83 := NB102_101.out
              have hnc83 := NB101_102.out
              obtain ⟨_, _, _, _, _, _, _, _, _, _, _, _, _, _, _, _⟩ := q8 BK102.out
              as_aux_lemma =>
                go_wp2_with (first | (go_at_call 104; (with_reducible refine (prog_blank.calls a1_3 a1_4 a1_5 _ _ l1_6 true _ ?side1 ?side2 A80.out).mono ?_); (case side1 => exact qC HR1_6.out); (case side2 => exact HC1_6.out); rintro e w85 ⟨rfl, hb⟩; have n0_ := qn101 (g := gb101) hb; have n1_ := qn102 (g := gb102) hb; have n2_ := qs hb; clear BK101; clear BK102; clear HB; have BK101 := n0_; have BK102 := n1_; have HB := n2_; clear n0_ n1_ n2_; (try clear hb)))
                go_meet
                case rel => exact ⟨_, (false), qv, H', ql, qk101, qk102, qB⟩
            replace c82 := Bool.eq_false_iff.mpr c82
            subst c82
            rw [if_neg qf] at H
            have H' := Aside0.mk H
            clear H
            have hnb86 := NB102_101.out
            have hnc86 := NB101_102.out
            obtain ⟨_, _, _, _, _, _, _, _, _, _, _, _, _, _, _, _⟩ := q8 BK102.out
            as_aux_lemma =>
              go_wp2_with (first | (go_at_call 104; (with_reducible refine (prog_blank.calls a1_3 a1_4 a1_5 _ _ l1_6 true _ ?side1 ?side2 A80.out).mono ?_); (case side1 => exact qC HR1_6.out); (case side2 => exact HC1_6.out); rintro e w88 ⟨rfl, hb⟩; have n0_ := qn101 (g := gb101) hb; have n1_ := qn102 (g := gb102) hb; have n2_ := qs hb; clear BK101; clear BK102; clear HB; have BK101 := n0_; have BK102 := n1_; have HB := n2_; clear n0_ n1_ n2_; (try clear hb); obtain ⟨_, _, _, _, _, _, _, _, _, _, _, _, _, _, _, _⟩ := q8 BK102.out))
              go_meet
              case rel => exact ⟨_, ((a1_7 != 0)), qv, H', ql, qk101, qk102, qB⟩
          replace c81 := Bool.eq_false_iff.mpr c81
          subst c81
          rw [if_neg qf] at H
          have H' := Aside0.mk H
          clear H
          have hnb90 := NB102_101.out
          have hnc90 := NB101_102.out
          obtain ⟨_, _, _, _, _, _, _, _, _, _, _, _, _, _, _, _⟩ := q8 BK102.out
          as_aux_lemma =>
            go_wp2_with (first | (go_at_call 104; (with_reducible refine (prog_blank.calls a1_3 a1_4 a1_5 _ _ l1_6 false _ ?side1 ?side2 A80.out).mono ?_); (case side1 => exact qC HR1_6.out); (case side2 => exact HC1_6.out); rintro e w92 ⟨rfl, hb⟩; have n0_ := qn101 (g := gb101) hb; have n1_ := qn102 (g := gb102) hb; have n2_ := qs hb; clear BK101; clear BK102; clear HB; have BK101 := n0_; have BK102 := n1_; have HB := n2_; clear n0_ n1_ n2_; (try clear hb)))
            go_meet
            case rel => exact ⟨_, (true), qv, H', ql, qk101, qk102, qB⟩
        rw [if_neg c73] at H
        obtain ⟨c73b0, c73b1⟩ := qd c73
        have H' := Aside0.mk H
        clear H
        have hnb93 := NB102_101.out
        have hnc93 := NB101_102.out
        obtain ⟨_, _, _, _, _, _, _, _, _, _, _, _, _, _, _, _⟩ := q8 BK102.out
        as_aux_lemma =>
          go_wp2
          go_meet
          case rel => exact ⟨_, (true), qv, H', ql, qk101, qk102, qB⟩
      rw [if_neg c52] at H
      obtain ⟨c52b0, c52b1⟩ := qd c52
      have H' := Aside0.mk H
      clear H
      have hnb95 := NB102_101.out
      have hnc95 := NB101_102.out
      obtain ⟨_, _, _, _, _, _, _, _, _, _, _, _, _, _, _, _⟩ := q8 BK102.out
      as_aux_lemma =>
        go_wp2
        go_meet
        case rel => exact ⟨_, (true), qv, H', ql, qk101, qk102, qB⟩
    replace c10 := Bool.eq_false_iff.mpr c10
    subst c10
    rw [if_neg qf] at H
    have H' := Aside0.mk H
    clear H
    as_aux_lemma =>
      go_wp2
      go_meet
      case rel => exact ⟨_, (true), qv, H', ql, qk101, qk102, qB⟩
  clear HC5
  obtain ⟨kq, x63_4, rfl, HA, HJ4, BK101, BK102, HB⟩ := hcut
  cases kq with
  | zero => exact absurd HA.out (by simp [prog_names_step.j0])
  | succ kj4 =>
    have H := HA.out
    clear HA
    simp only [prog_names_step.j0] at H
    by_cases c97 : x63_4 = true
    · subst c97
      rw [if_pos rfl] at H
      obtain rfl := Option.some.inj H
      as_aux_lemma =>
        go_wp2
        go_ret
        exact qr
    replace c97 := Bool.eq_false_iff.mpr c97
    subst c97
    rw [if_neg qf] at H
    have HC98 := Aside0.mk H
    clear H
    have hnb99 := NB102_101.out
    have hnc99 := NB101_102.out
    obtain ⟨_, _, _, _, _, _, _, _, _, _, _, _, _, _, _, _⟩ := q8 BK102.out
    go_upto_block 0 with (fail)
    go_cut [] (fun wc => ∃ (kq : Nat), Aside0 (prog_names_step.j3 kq t105 l0_0 l0_1 l0_2 a1_0 a1_1 a1_2 a1_3 a1_4 a1_5 l1_6 a1_7 = some r) ∧ Aside0 (kq ≤ kj4) ∧ Aside0 (wc.heap[gb101]? = some (.cells #[(.slice A0_0 l0_0.length c0_0), (.slice A0_1 l0_1.length c0_1), (.slice A0_2 l0_2.length c0_2)] 121 (0, 0))) ∧ Aside0 (wc.heap[gb102]? = some (.cells #[.int .i64 a1_0, .string a1_1, .string a1_2, .int .i64 a1_3, .int .i64 a1_4, .string a1_5, (.slice A1_6 l1_6.length c1_6), .int .i64 a1_7] 67 (0, 0))) ∧ Aside0 (Below w.heap.size w wc))
    case first =>
      have H := HC98.out
      clear HC98
      by_cases c101 : a1_0 = 0
      · rw [if_pos c101] at H
        obtain ⟨c101b0, c101b1⟩ := qe c101
        clear c101
        (first | rw [c101b0] | (simp only [i64_w, i32_w]; rw [c101b0]) | skip)
        replace H := qi H
        obtain ⟨t112, A102, H⟩ := H
        by_cases c103 : t112 = true
        · subst c103
          rw [if_pos rfl] at H
          have H' := Aside0.mk H
          clear H
          have hnb104 := NB101_102.out
          have hnc104 := NB102_101.out
          obtain ⟨_, _, _, _, _, _⟩ := q3 BK101.out
          obtain ⟨_, _, _, _, _, _, _, _, _, _, _, _, _, _, _, _⟩ := q8 BK102.out
          as_aux_lemma =>
            go_wp2_with (first | ((with_reducible refine gate_callee (f := 61) rfl ?_); refine goesL_ (some 72) rfl rfl Tryd.func61 (by kernel_rfl) rfl #[.slice A0_0 l0_0.length c0_0, .string a1_1] rfl qm ?_; (with_reducible refine (slices_Contains_string_string.calls kj4 _ _ l0_0 a1_1 true _ ?side1 ?side2 A102.out).mono ?_); (case side1 => exact qC HR0_0.out); (case side2 => exact HC0_0.out); rintro e w' ⟨rfl, ⟨nd, rfl⟩⟩; refine ⟨_, rfl, ?_⟩))
            go_meet
            case rel => exact ⟨_, H', ⟨by have := HJ4.out; first | omega | exact Nat.le_refl _⟩, qk101, qk102, qB⟩
        replace c103 := Bool.eq_false_iff.mpr c103
        subst c103
        rw [if_neg qf] at H
        obtain rfl := Option.some.inj H
        have hnb107 := NB101_102.out
        have hnc107 := NB102_101.out
        obtain ⟨_, _, _, _, _, _⟩ := q3 BK101.out
        obtain ⟨_, _, _, _, _, _, _, _, _, _, _, _, _, _, _, _⟩ := q8 BK102.out
        as_aux_lemma =>
          go_wp2_with (first | ((with_reducible refine gate_callee (f := 61) rfl ?_); refine goesL_ (some 72) rfl rfl Tryd.func61 (by kernel_rfl) rfl #[.slice A0_0 l0_0.length c0_0, .string a1_1] rfl qm ?_; (with_reducible refine (slices_Contains_string_string.calls kj4 _ _ l0_0 a1_1 false _ ?side1 ?side2 A102.out).mono ?_); (case side1 => exact qC HR0_0.out); (case side2 => exact HC0_0.out); rintro e w' ⟨rfl, ⟨nd, rfl⟩⟩; refine ⟨_, rfl, ?_⟩))
          go_ret
          exact qr
      rw [if_neg c101] at H
      obtain ⟨c101b0, c101b1⟩ := qd c101
      (first | rw [c101b0] | (simp only [i64_w, i32_w]; rw [c101b0]) | skip)
      have HC110 := Aside0.mk H
      clear H
      go_upto_if 74 with (fail)
      go_cut [74] (fun v74 wc => ∃ (kq : Nat) (x74_109 : Bool), v74 = .bool x74_109 ∧ Aside0 (prog_names_step.j1 kq a2 t105 a1_0 x74_109 l0_0 l0_1 l0_2 a1_0 a1_1 a1_2 a1_3 a1_4 a1_5 l1_6 a1_7 = some r) ∧ Aside0 (kq ≤ kj4) ∧ Aside0 (wc.heap[gb101]? = some (.cells #[(.slice A0_0 l0_0.length c0_0), (.slice A0_1 l0_1.length c0_1), (.slice A0_2 l0_2.length c0_2)] 121 (0, 0))) ∧ Aside0 (wc.heap[gb102]? = some (.cells #[.int .i64 a1_0, .string a1_1, .string a1_2, .int .i64 a1_3, .int .i64 a1_4, .string a1_5, (.slice A1_6 l1_6.length c1_6), .int .i64 a1_7] 67 (0, 0))) ∧ Aside0 (Below w.heap.size w wc))
      case first =>
        have H := HC110.out
        clear HC110
        by_cases c111 : a1_0 = 3
        · rw [if_pos c111] at H
          obtain ⟨c111b0, c111b1⟩ := qe c111
          clear c111
          (first | rw [c111b0] | (simp only [i64_w, i32_w]; rw [c111b0]) | skip)
          have H' := Aside0.mk H
          clear H
          as_aux_lemma =>
            go_wp2
            go_meet
            case rel => exact ⟨_, ((a1_0 == 3)), qv, H', ⟨by have := HJ4.out; first | omega | exact Nat.le_refl _⟩, qk101, qk102, qB⟩
        rw [if_neg c111] at H
        obtain ⟨c111b0, c111b1⟩ := qd c111
        (first | rw [c111b0] | (simp only [i64_w, i32_w]; rw [c111b0]) | skip)
        by_cases c112 : a1_0 = 4
        · rw [if_pos c112] at H
          obtain ⟨c112b0, c112b1⟩ := qe c112
          clear c112
          have H' := Aside0.mk H
          clear H
          as_aux_lemma =>
            go_wp2
            go_meet
            case rel => exact ⟨_, ((a1_0 == 4)), qv, H', ⟨by have := HJ4.out; first | omega | exact Nat.le_refl _⟩, qk101, qk102, qB⟩
        rw [if_neg c112] at H
        obtain ⟨c112b0, c112b1⟩ := qd c112
        have H' := Aside0.mk H
        clear H
        as_aux_lemma =>
          go_wp2
          go_meet
          case rel => exact ⟨_, ((a1_0 == 5)), qv, H', ⟨by have := HJ4.out; first | omega | exact Nat.le_refl _⟩, qk101, qk102, qB⟩
      clear HC110
      obtain ⟨kq, x74_109, rfl, HA, HJ109, BK101, BK102, HB⟩ := hcut
      cases kq with
      | zero => exact absurd HA.out (by simp [prog_names_step.j1])
      | succ kj109 =>
        have H := HA.out
        clear HA
        simp only [prog_names_step.j1] at H
        by_cases c113 : x74_109 = true
        · subst c113
          rw [if_pos rfl] at H
          have HC114 := Aside0.mk H
          clear H
          go_upto_region 11 with (fail)
          go_cut [96] (fun v96 wc => ∃ (kq : Nat) (x96_113 : Bool), v96 = .bool x96_113 ∧ Aside0 (prog_names_step.j2 kq t105 x96_113 l0_0 l0_1 l0_2 a1_0 a1_1 a1_2 a1_3 a1_4 a1_5 l1_6 a1_7 = some r) ∧ Aside0 (kq ≤ kj109) ∧ Aside0 (wc.heap[gb101]? = some (.cells #[(.slice A0_0 l0_0.length c0_0), (.slice A0_1 l0_1.length c0_1), (.slice A0_2 l0_2.length c0_2)] 121 (0, 0))) ∧ Aside0 (wc.heap[gb102]? = some (.cells #[.int .i64 a1_0, .string a1_1, .string a1_2, .int .i64 a1_3, .int .i64 a1_4, .string a1_5, (.slice A1_6 l1_6.length c1_6), .int .i64 a1_7] 67 (0, 0))) ∧ Aside0 (Below w.heap.size w wc))
          case first =>
            have H := HC114.out
            clear HC114
            replace H := qi H
            obtain ⟨t113, A115, H⟩ := H
            by_cases c116 : t113 = true
            · subst c116
              rw [if_pos rfl] at H
              by_cases c117 : a1_0 = 5
              · rw [if_pos c117] at H
                obtain ⟨c117b0, c117b1⟩ := qe c117
                clear c117
                (first | rw [c117b0] | (simp only [i64_w, i32_w]; rw [c117b0]) | skip)
                replace H := qi H
                obtain ⟨t114, A118, H⟩ := H
                have H' := Aside0.mk H
                clear H
                have hnb119 := NB101_102.out
                have hnc119 := NB102_101.out
                obtain ⟨_, _, _, _, _, _⟩ := q3 BK101.out
                obtain ⟨_, _, _, _, _, _, _, _, _, _, _, _, _, _, _, _⟩ := q8 BK102.out
                as_aux_lemma =>
                  go_wp2_with (first | ((with_reducible refine gate_callee (f := 61) rfl ?_); refine goesL_ (some 82) rfl rfl Tryd.func61 (by kernel_rfl) rfl #[.slice A0_1 l0_1.length c0_1, .string a1_1] rfl qm ?_; (with_reducible refine (slices_Contains_string_string.calls kj109 _ _ l0_1 a1_1 true _ ?side1 ?side2 A115.out).mono ?_); (case side1 => exact qC HR0_1.out); (case side2 => exact HC0_1.out); rintro e w' ⟨rfl, ⟨nd, rfl⟩⟩; refine ⟨_, rfl, ?_⟩) | (go_at_call 61; (with_reducible refine (slices_Contains_string_string.calls kj109 _ _ l0_1 a1_2 t114 _ ?side1 ?side2 A118.out).mono ?_); (case side1 => repeat (first | exact (Kd.C_below HR0_1.out qb) | (with_reducible refine Kd.C_alloc ?_ _) | (with_reducible refine Kd.C_drewN ?_ _) | (with_reducible refine Kd.C_drew ?_))); (case side2 => exact HC0_1.out); rintro e w' ⟨rfl, ⟨nd, rfl⟩⟩))
                  go_meet
                  case rel => exact ⟨_, (!t114), qv, H', ⟨by have := HJ4.out; have := HJ109.out; first | omega | exact Nat.le_refl _⟩, qk101, qk102, qB⟩
              rw [if_neg c117] at H
              obtain ⟨c117b0, c117b1⟩ := qd c117
              (first | rw [c117b0] | (simp only [i64_w, i32_w]; rw [c117b0]) | skip)
              have H' := Aside0.mk H
              clear H
              have hnb122 := NB101_102.out
              have hnc122 := NB102_101.out
              obtain ⟨_, _, _, _, _, _⟩ := q3 BK101.out
              obtain ⟨_, _, _, _, _, _, _, _, _, _, _, _, _, _, _, _⟩ := q8 BK102.out
              as_aux_lemma =>
                go_wp2_with (first | ((with_reducible refine gate_callee (f := 61) rfl ?_); refine goesL_ (some 82) rfl rfl Tryd.func61 (by kernel_rfl) rfl #[.slice A0_1 l0_1.length c0_1, .string a1_1] rfl qm ?_; (with_reducible refine (slices_Contains_string_string.calls kj109 _ _ l0_1 a1_1 true _ ?side1 ?side2 A115.out).mono ?_); (case side1 => exact qC HR0_1.out); (case side2 => exact HC0_1.out); rintro e w' ⟨rfl, ⟨nd, rfl⟩⟩; refine ⟨_, rfl, ?_⟩))
                go_meet
                case rel => exact ⟨_, (false), qv, H', ⟨by have := HJ4.out; have := HJ109.out; first | omega | exact Nat.le_refl _⟩, qk101, qk102, qB⟩
            replace c116 := Bool.eq_false_iff.mpr c116
            subst c116
            rw [if_neg qf] at H
            have H' := Aside0.mk H
            clear H
            have hnb125 := NB101_102.out
            have hnc125 := NB102_101.out
            obtain ⟨_, _, _, _, _, _⟩ := q3 BK101.out
            obtain ⟨_, _, _, _, _, _, _, _, _, _, _, _, _, _, _, _⟩ := q8 BK102.out
            as_aux_lemma =>
              go_wp2_with (first | ((with_reducible refine gate_callee (f := 61) rfl ?_); refine goesL_ (some 82) rfl rfl Tryd.func61 (by kernel_rfl) rfl #[.slice A0_1 l0_1.length c0_1, .string a1_1] rfl qm ?_; (with_reducible refine (slices_Contains_string_string.calls kj109 _ _ l0_1 a1_1 false _ ?side1 ?side2 A115.out).mono ?_); (case side1 => exact qC HR0_1.out); (case side2 => exact HC0_1.out); rintro e w' ⟨rfl, ⟨nd, rfl⟩⟩; refine ⟨_, rfl, ?_⟩))
              go_meet
              case rel => exact ⟨_, (true), qv, H', ⟨by have := HJ4.out; have := HJ109.out; first | omega | exact Nat.le_refl _⟩, qk101, qk102, qB⟩
          clear HC114
          obtain ⟨kq, x96_113, rfl, HA, HJ113, BK101, BK102, HB⟩ := hcut
          cases kq with
          | zero => exact absurd HA.out (by simp [prog_names_step.j2])
          | succ kj113 =>
            have H := HA.out
            clear HA
            simp only [prog_names_step.j2] at H
            by_cases c128 : x96_113 = true
            · subst c128
              rw [if_pos rfl] at H
              obtain rfl := Option.some.inj H
              as_aux_lemma =>
                go_wp2
                go_ret
                exact qr
            replace c128 := Bool.eq_false_iff.mpr c128
            subst c128
            rw [if_neg qf] at H
            by_cases c129 : a1_0 = 3
            · rw [if_pos c129] at H
              obtain ⟨c129b0, c129b1⟩ := qe c129
              clear c129
              replace H := qi H
              obtain ⟨t115, A130, H⟩ := H
              by_cases c131 : t115 = true
              · subst c131
                rw [if_pos rfl] at H
                by_cases c132 : a1_0 = 5
                · rw [if_pos c132] at H
                  obtain ⟨c132b0, c132b1⟩ := qe c132
                  clear c132
                  by_cases c133 : a1_2.toList = a1_1.toList
                  · rw [if_pos c133] at H
                    obtain ⟨c133b0, c133b1⟩ := qe c133
                    clear c133
                    obtain rfl := Option.some.inj H
                    have hnb134 := NB102_101.out
                    have hnc134 := NB101_102.out
                    obtain ⟨_, _, _, _, _, _, _, _, _, _, _, _, _, _, _, _⟩ := q8 BK102.out
                    as_aux_lemma =>
                      go_wp2_with (first | (go_at_call 91; (with_reducible refine (lex_Name.calls a1_2 true _ A130.out (by first | exact HT0.out | exact UT.below HT0.out qb)).mono ?_); rintro e w136 ⟨rfl, hb⟩; have n0_ := qn101 (g := gb101) hb; have n1_ := qn102 (g := gb102) hb; have n2_ := qs hb; clear BK101; clear BK102; clear HB; have BK101 := n0_; have BK102 := n1_; have HB := n2_; clear n0_ n1_ n2_; (try clear hb); obtain ⟨_, _, _, _, _, _, _, _, _, _, _, _, _, _, _, _⟩ := q8 BK102.out))
                      go_ret
                      exact qr
                  rw [if_neg c133] at H
                  obtain ⟨c133b0, c133b1⟩ := qd c133
                  have H' := Aside0.mk H
                  clear H
                  have hnb138 := NB102_101.out
                  have hnc138 := NB101_102.out
                  obtain ⟨_, _, _, _, _, _, _, _, _, _, _, _, _, _, _, _⟩ := q8 BK102.out
                  as_aux_lemma =>
                    go_wp2_with (first | (go_at_call 91; (with_reducible refine (lex_Name.calls a1_2 true _ A130.out (by first | exact HT0.out | exact UT.below HT0.out qb)).mono ?_); rintro e w140 ⟨rfl, hb⟩; have n0_ := qn101 (g := gb101) hb; have n1_ := qn102 (g := gb102) hb; have n2_ := qs hb; clear BK101; clear BK102; clear HB; have BK101 := n0_; have BK102 := n1_; have HB := n2_; clear n0_ n1_ n2_; (try clear hb); obtain ⟨_, _, _, _, _, _, _, _, _, _, _, _, _, _, _, _⟩ := q8 BK102.out))
                    go_meet
                    case rel => exact ⟨_, H', ⟨by have := HJ4.out; have := HJ109.out; have := HJ113.out; first | omega | exact Nat.le_refl _⟩, qk101, qk102, qB⟩
                rw [if_neg c132] at H
                obtain ⟨c132b0, c132b1⟩ := qd c132
                have H' := Aside0.mk H
                clear H
                have hnb142 := NB102_101.out
                have hnc142 := NB101_102.out
                obtain ⟨_, _, _, _, _, _, _, _, _, _, _, _, _, _, _, _⟩ := q8 BK102.out
                as_aux_lemma =>
                  go_wp2_with (first | (go_at_call 91; (with_reducible refine (lex_Name.calls a1_2 true _ A130.out (by first | exact HT0.out | exact UT.below HT0.out qb)).mono ?_); rintro e w144 ⟨rfl, hb⟩; have n0_ := qn101 (g := gb101) hb; have n1_ := qn102 (g := gb102) hb; have n2_ := qs hb; clear BK101; clear BK102; clear HB; have BK101 := n0_; have BK102 := n1_; have HB := n2_; clear n0_ n1_ n2_; (try clear hb); obtain ⟨_, _, _, _, _, _, _, _, _, _, _, _, _, _, _, _⟩ := q8 BK102.out))
                  go_meet
                  case rel => exact ⟨_, H', ⟨by have := HJ4.out; have := HJ109.out; have := HJ113.out; first | omega | exact Nat.le_refl _⟩, qk101, qk102, qB⟩
              replace c131 := Bool.eq_false_iff.mpr c131
              subst c131
              rw [if_neg qf] at H
              obtain rfl := Option.some.inj H
              have hnb146 := NB102_101.out
              have hnc146 := NB101_102.out
              obtain ⟨_, _, _, _, _, _, _, _, _, _, _, _, _, _, _, _⟩ := q8 BK102.out
              as_aux_lemma =>
                go_wp2_with (first | (go_at_call 91; (with_reducible refine (lex_Name.calls a1_2 false _ A130.out (by first | exact HT0.out | exact UT.below HT0.out qb)).mono ?_); rintro e w148 ⟨rfl, hb⟩; have n0_ := qn101 (g := gb101) hb; have n1_ := qn102 (g := gb102) hb; have n2_ := qs hb; clear BK101; clear BK102; clear HB; have BK101 := n0_; have BK102 := n1_; have HB := n2_; clear n0_ n1_ n2_; (try clear hb)))
                go_ret
                exact qr
            rw [if_neg c129] at H
            obtain ⟨c129b0, c129b1⟩ := qd c129
            by_cases c149 : a1_0 = 5
            · rw [if_pos c149] at H
              obtain ⟨c149b0, c149b1⟩ := qe c149
              clear c149
              by_cases c150 : a1_2.toList = a1_1.toList
              · rw [if_pos c150] at H
                obtain ⟨c150b0, c150b1⟩ := qe c150
                clear c150
                obtain rfl := Option.some.inj H
                have hnb151 := NB102_101.out
                have hnc151 := NB101_102.out
                obtain ⟨_, _, _, _, _, _, _, _, _, _, _, _, _, _, _, _⟩ := q8 BK102.out
                as_aux_lemma =>
                  go_wp2
                  go_ret
                  exact qr
              rw [if_neg c150] at H
              obtain ⟨c150b0, c150b1⟩ := qd c150
              have H' := Aside0.mk H
              clear H
              have hnb153 := NB102_101.out
              have hnc153 := NB101_102.out
              obtain ⟨_, _, _, _, _, _, _, _, _, _, _, _, _, _, _, _⟩ := q8 BK102.out
              as_aux_lemma =>
                go_wp2
                go_meet
                case rel => exact ⟨_, H', ⟨by have := HJ4.out; have := HJ109.out; have := HJ113.out; first | omega | exact Nat.le_refl _⟩, qk101, qk102, qB⟩
            rw [if_neg c149] at H
            obtain ⟨c149b0, c149b1⟩ := qd c149
            have H' := Aside0.mk H
            clear H
            have hnb155 := NB102_101.out
            have hnc155 := NB101_102.out
            obtain ⟨_, _, _, _, _, _, _, _, _, _, _, _, _, _, _, _⟩ := q8 BK102.out
            as_aux_lemma =>
              go_wp2
              go_meet
              case rel => exact ⟨_, H', ⟨by have := HJ4.out; have := HJ109.out; have := HJ113.out; first | omega | exact Nat.le_refl _⟩, qk101, qk102, qB⟩
        replace c113 := Bool.eq_false_iff.mpr c113
        subst c113
        rw [if_neg qf] at H
        by_cases c157 : a1_0 = 7
        · rw [if_pos c157] at H
          obtain ⟨c157b0, c157b1⟩ := qe c157
          clear c157
          replace H := qi H
          obtain ⟨⟨t116, t117⟩, A158, H⟩ := H
          replace H : (if t117 = true then (prog_names_step.j3 kj109 t105 l0_0 l0_1 l0_2 a1_0 a1_1 a1_2 a1_3 a1_4 a1_5 l1_6 a1_7) else (some 1)) = some r := H
          by_cases c159 : t117 = true
          · subst c159
            rw [if_pos rfl] at H
            have H' := Aside0.mk H
            clear H
            have hnb160 := NB102_101.out
            have hnc160 := NB101_102.out
            obtain ⟨_, _, _, _, _, _, _, _, _, _, _, _, _, _, _, _⟩ := q8 BK102.out
            as_aux_lemma =>
              go_wp2_with (first | ((with_reducible refine gate_callee (f := 105) rfl ?_); refine goesL_ (some 123) rfl rfl Tryd.func105 (by kernel_rfl) rfl #[.string a1_1] rfl qm ?_; (with_reducible refine (lex_Quote.calls a1_1 t116 true _ A158.out (by first | exact HT0.out | exact UT.below HT0.out qb)).mono ?_); rintro e w162 ⟨rfl, hb⟩; refine ⟨_, rfl, ?_⟩; have n0_ := qn101 (g := gb101) hb; have n1_ := qn102 (g := gb102) hb; have n2_ := qs hb; clear BK101; clear BK102; clear HB; have BK101 := n0_; have BK102 := n1_; have HB := n2_; clear n0_ n1_ n2_; (try clear hb)))
              go_meet
              case rel => exact ⟨_, H', ⟨by have := HJ4.out; have := HJ109.out; first | omega | exact Nat.le_refl _⟩, qk101, qk102, qB⟩
          replace c159 := Bool.eq_false_iff.mpr c159
          subst c159
          rw [if_neg qf] at H
          obtain rfl := Option.some.inj H
          have hnb163 := NB102_101.out
          have hnc163 := NB101_102.out
          obtain ⟨_, _, _, _, _, _, _, _, _, _, _, _, _, _, _, _⟩ := q8 BK102.out
          as_aux_lemma =>
            go_wp2_with (first | ((with_reducible refine gate_callee (f := 105) rfl ?_); refine goesL_ (some 123) rfl rfl Tryd.func105 (by kernel_rfl) rfl #[.string a1_1] rfl qm ?_; (with_reducible refine (lex_Quote.calls a1_1 t116 false _ A158.out (by first | exact HT0.out | exact UT.below HT0.out qb)).mono ?_); rintro e w165 ⟨rfl, hb⟩; refine ⟨_, rfl, ?_⟩; have n0_ := qn101 (g := gb101) hb; have n1_ := qn102 (g := gb102) hb; have n2_ := qs hb; clear BK101; clear BK102; clear HB; have BK101 := n0_; have BK102 := n1_; have HB := n2_; clear n0_ n1_ n2_; (try clear hb)))
            go_ret
            exact qr
        rw [if_neg c157] at H
        obtain ⟨c157b0, c157b1⟩ := qd c157
        by_cases c166 : a1_0 = 6
        · rw [if_pos c166] at H
          obtain ⟨c166b0, c166b1⟩ := qe c166
          clear c166
          by_cases c167 : a1_7 < 0
          · rw [if_pos c167] at H
            have c167b0 : decide (a1_7 < 0) = true := decide_eq_true c167
            clear c167
            obtain rfl := Option.some.inj H
            have hnb168 := NB102_101.out
            have hnc168 := NB101_102.out
            obtain ⟨_, _, _, _, _, _, _, _, _, _, _, _, _, _, _, _⟩ := q8 BK102.out
            as_aux_lemma =>
              go_wp2
              go_ret
              exact qr
          rw [if_neg c167] at H
          have c167b0 : decide (a1_7 < 0) = false := decide_eq_false c167
          clear c167
          by_cases c170 : a1_7 > a2
          · rw [if_pos c170] at H
            have c170b0 : decide (a2 < a1_7) = true := decide_eq_true c170
            clear c170
            obtain rfl := Option.some.inj H
            have hnb171 := NB102_101.out
            have hnc171 := NB101_102.out
            obtain ⟨_, _, _, _, _, _, _, _, _, _, _, _, _, _, _, _⟩ := q8 BK102.out
            as_aux_lemma =>
              go_wp2
              go_ret
              exact qr
          rw [if_neg c170] at H
          have c170b0 : decide (a2 < a1_7) = false := decide_eq_false c170
          clear c170
          have H' := Aside0.mk H
          clear H
          have hnb173 := NB102_101.out
          have hnc173 := NB101_102.out
          obtain ⟨_, _, _, _, _, _, _, _, _, _, _, _, _, _, _, _⟩ := q8 BK102.out
          as_aux_lemma =>
            go_wp2
            go_meet
            case rel => exact ⟨_, H', ⟨by have := HJ4.out; have := HJ109.out; first | omega | exact Nat.le_refl _⟩, qk101, qk102, qB⟩
        rw [if_neg c166] at H
        obtain ⟨c166b0, c166b1⟩ := qd c166
        have H' := Aside0.mk H
        clear H
        as_aux_lemma =>
          go_wp2
          go_meet
          case rel => exact ⟨_, H', ⟨by have := HJ4.out; have := HJ109.out; first | omega | exact Nat.le_refl _⟩, qk101, qk102, qB⟩
    clear HC98
    obtain ⟨kq, HA, HJ97, BK101, BK102, HB⟩ := hcut
    cases kq with
    | zero => exact absurd HA.out (by simp [prog_names_step.j3])
    | succ kj97 =>
      have H := HA.out
      clear HA
      simp only [prog_names_step.j3] at H
      by_cases c175 : t105 = true
      · subst c175
        rw [if_pos rfl] at H
        replace H := qi H
        obtain ⟨t118, A176, H⟩ := H
        by_cases c177 : t118 = true
        · subst c177
          rw [if_pos rfl] at H
          replace H := qi H
          obtain ⟨t119, A178, H⟩ := H
          have H' := Aside0.mk H
          clear H
          have hnb179 := NB102_101.out
          have hnc179 := NB101_102.out
          obtain ⟨_, _, _, _, _, _, _, _, _, _, _, _, _, _, _, _⟩ := q8 BK102.out
          go_wp2_with (first | ((with_reducible refine gate_callee (f := 29) rfl ?_); refine goesL_ (some 143) rfl rfl Tryd.func29 (by kernel_rfl) rfl #[.agg #[.int .i64 a1_3, .int .i64 a1_4, .string a1_5, .slice A1_6 l1_6.length c1_6]] rfl qm ?_; (with_reducible refine (expr_May.calls kj97 a1_3 a1_4 a1_5 _ _ l1_6 true _ ?side1 ?side2 A176.out (by first | exact HT0.out | exact UT.below HT0.out qb)).mono ?_); (case side1 => exact qC HR1_6.out); (case side2 => exact HC1_6.out); rintro e w181 ⟨rfl, hb⟩; refine ⟨_, rfl, ?_⟩; have n0_ := qn101 (g := gb101) hb; have n1_ := qn102 (g := gb102) hb; have n2_ := qs hb; clear BK101; clear BK102; clear HB; have BK101 := n0_; have BK102 := n1_; have HB := n2_; clear n0_ n1_ n2_; (try clear hb); obtain ⟨_, _, _, _, _, _, _, _, _, _, _, _, _, _, _, _⟩ := q8 BK102.out) | ((with_reducible refine gate_callee (f := 106) rfl ?_); refine goesL_ (some 147) rfl rfl Tryd.func106 (by kernel_rfl) rfl #[.agg #[.int .i64 a1_3, .int .i64 a1_4, .string a1_5, .slice A1_6 l1_6.length c1_6]] rfl qm ?_; (with_reducible refine (expr_Names.calls kj97 a1_3 a1_4 a1_5 _ _ l1_6 t119 _ ?side1 ?side2 A178.out (by first | exact HT0.out | exact UT.below HT0.out qb)).mono ?_); (case side1 => exact qC HR1_6.out); (case side2 => exact HC1_6.out); rintro e w183 ⟨v120, rfl, ho0, hb⟩; refine ⟨_, rfl, ?_⟩; have n0_ := Aside0.mk (Kd.R_lower ho0 (below_size qb)); have n1_ := qn101 (g := gb101) hb; have n2_ := qn102 (g := gb102) hb; have n3_ := qs hb; clear BK101; clear BK102; clear HB; have HO121 := n0_; have BK101 := n1_; have BK102 := n2_; have HB := n3_; clear n0_ n1_ n2_ n3_; (try clear hb); (try clear ho0); obtain ⟨Ao184, co184, eo184⟩ := Kd.R_slice HO121.out; subst eo184))
          go_loopg [149] kj97 (fun kq v149 w' => ∃ (x149_3 : Int), v149 = .int .i64 x149_3 ∧ Aside0 (prog_names_step.l0 kq t119 (t119.length : Int) x149_3 l0_0 l0_1 l0_2 = some r) ∧ Aside0 (kq ≤ kj97) ∧ Aside0 (Kd.R Kd.string 9 w' w.heap.size (fun _ => True) (.slice Ao184 t119.length co184) t119) ∧ Aside0 (w'.heap[gb101]? = some (.cells #[(.slice A0_0 l0_0.length c0_0), (.slice A0_1 l0_1.length c0_1), (.slice A0_2 l0_2.length c0_2)] 121 (0, 0))) ∧ Aside0 (w'.heap[gb102]? = some (.cells #[.int .i64 a1_0, .string a1_1, .string a1_2, .int .i64 a1_3, .int .i64 a1_4, .string a1_5, (.slice A1_6 l1_6.length c1_6), .int .i64 a1_7] 67 (0, 0))) ∧ Aside0 (Below w.heap.size w w'))
          case atStart => exact ⟨(0), qv, H', ⟨Nat.le_refl _⟩, ⟨by (with_reducible repeat (first | apply Kd.R_alloc | apply Kd.R_drewN | apply Kd.R_drew)); exact HO121.out⟩, qk101, qk102, qB⟩
          case round =>
            clear H'
            obtain ⟨x149_3, rfl, HA, HK3, HO_147, BK101, BK102, HB⟩ := hrel
            cases gk with
            | zero => exact absurd HA.out (by simp [prog_names_step.l0])
            | succ k3 =>
              have H := HA.out
              clear HA
              simp only [prog_names_step.l0] at H
              by_cases c185 : x149_3 < (t119.length : Int)
              · rw [if_pos c185] at H
                have c185b0 : decide (x149_3 < (t119.length : Int)) = true := decide_eq_true c185
                clear c185
                by_cases c186 : 0 ≤ x149_3
                · rw [if_pos c186] at H
                  have c186b0 : decide (0 ≤ x149_3) = true := decide_eq_true c186
                  clear c186
                  by_cases c187 : x149_3 < (t119.length : Int)
                  · rw [if_pos c187] at H
                    have c187b0 : decide (x149_3 < (t119.length : Int)) = true := decide_eq_true c187
                    clear c187
                    replace H := qi H
                    obtain ⟨t123, A188, H⟩ := H
                    by_cases c189 : t123 = true
                    · subst c189
                      rw [if_pos rfl] at H
                      have H' := Aside0.mk H
                      clear H
                      have p122 : 0 ≤ (x149_3 : Int) := qa
                      have q122 : x149_3 < (t119.length : Int) := qa
                      obtain ⟨ad122, e122, hx122_0⟩ := Kd.at_string (Kd.R_reads' HO_147.out).2.2 x149_3 p122 q122
                      cases e122
                      replace p122 := eq_true p122
                      replace q122 := eq_true q122
                      have hnb190 := NB101_102.out
                      have hnc190 := NB102_101.out
                      obtain ⟨_, _, _, _, _, _⟩ := q3 BK101.out
                      as_aux_lemma =>
                        go_wp2_with (first | ((with_reducible refine gate_callee (f := 61) rfl ?_); refine goesL_ (some 156) rfl rfl Tryd.func61 (by kernel_rfl) rfl #[.slice A0_2 l0_2.length c0_2, .string (rdOf ByteArray.empty t119 x149_3)] rfl qm ?_; (with_reducible refine (slices_Contains_string_string.calls k3 _ _ l0_2 (rdOf ByteArray.empty t119 x149_3) true _ ?side1 ?side2 A188.out).mono ?_); (case side1 => exact qC HR0_2.out); (case side2 => exact HC0_2.out); rintro e w' ⟨rfl, ⟨nd, rfl⟩⟩; refine ⟨_, rfl, ?_⟩))
                        go_roundg k3
                        case measure => have := HJ4.out; have := HJ97.out; have := HK3.out; omega
                        case rel => exact ⟨(wrap64 (x149_3 + 1)), qv, H', ⟨by have := HJ4.out; have := HJ97.out; have := HK3.out; omega⟩, ⟨by (with_reducible repeat (first | apply Kd.R_alloc | apply Kd.R_drewN | apply Kd.R_drew)); exact HO_147.out⟩, qk101, qk102, qB⟩
                    replace c189 := Bool.eq_false_iff.mpr c189
                    subst c189
                    rw [if_neg qf] at H
                    obtain rfl := Option.some.inj H
                    have p122 : 0 ≤ (x149_3 : Int) := qa
                    have q122 : x149_3 < (t119.length : Int) := qa
                    obtain ⟨ad122, e122, hx122_0⟩ := Kd.at_string (Kd.R_reads' HO_147.out).2.2 x149_3 p122 q122
                    cases e122
                    replace p122 := eq_true p122
                    replace q122 := eq_true q122
                    have hnb192 := NB101_102.out
                    have hnc192 := NB102_101.out
                    obtain ⟨_, _, _, _, _, _⟩ := q3 BK101.out
                    as_aux_lemma =>
                      go_wp2_with (first | ((with_reducible refine gate_callee (f := 61) rfl ?_); refine goesL_ (some 156) rfl rfl Tryd.func61 (by kernel_rfl) rfl #[.slice A0_2 l0_2.length c0_2, .string (rdOf ByteArray.empty t119 x149_3)] rfl qm ?_; (with_reducible refine (slices_Contains_string_string.calls k3 _ _ l0_2 (rdOf ByteArray.empty t119 x149_3) false _ ?side1 ?side2 A188.out).mono ?_); (case side1 => exact qC HR0_2.out); (case side2 => exact HC0_2.out); rintro e w' ⟨rfl, ⟨nd, rfl⟩⟩; refine ⟨_, rfl, ?_⟩))
                      go_ret
                      exact qr
                  rw [if_neg c187] at H
                  exact absurd H (by simp)
                rw [if_neg c186] at H
                exact absurd H (by simp)
              rw [if_neg c185] at H
              have c185b0 : decide (x149_3 < (t119.length : Int)) = false := decide_eq_false c185
              clear c185
              obtain rfl := Option.some.inj H
              as_aux_lemma =>
                go_wp2
                go_ret
                exact qr
        replace c177 := Bool.eq_false_iff.mpr c177
        subst c177
        rw [if_neg qf] at H
        obtain rfl := Option.some.inj H
        have hnb194 := NB102_101.out
        have hnc194 := NB101_102.out
        obtain ⟨_, _, _, _, _, _, _, _, _, _, _, _, _, _, _, _⟩ := q8 BK102.out
        as_aux_lemma =>
          go_wp2_with (first | ((with_reducible refine gate_callee (f := 29) rfl ?_); refine goesL_ (some 143) rfl rfl Tryd.func29 (by kernel_rfl) rfl #[.agg #[.int .i64 a1_3, .int .i64 a1_4, .string a1_5, .slice A1_6 l1_6.length c1_6]] rfl qm ?_; (with_reducible refine (expr_May.calls kj97 a1_3 a1_4 a1_5 _ _ l1_6 false _ ?side1 ?side2 A176.out (by first | exact HT0.out | exact UT.below HT0.out qb)).mono ?_); (case side1 => exact qC HR1_6.out); (case side2 => exact HC1_6.out); rintro e w196 ⟨rfl, hb⟩; refine ⟨_, rfl, ?_⟩; have n0_ := qn101 (g := gb101) hb; have n1_ := qn102 (g := gb102) hb; have n2_ := qs hb; clear BK101; clear BK102; clear HB; have BK101 := n0_; have BK102 := n1_; have HB := n2_; clear n0_ n1_ n2_; (try clear hb)))
          go_ret
          exact qr
      replace c175 := Bool.eq_false_iff.mpr c175
      subst c175
      rw [if_neg qf] at H
      obtain rfl := Option.some.inj H
      as_aux_lemma =>
        go_wp2
        go_ret
        exact qr
end Go.Proofs.YtiaccdaeomaogaaDoor.F
