/- Texts of one claim, slimmed and merged by slim.py. -/
import Derived.Test.YtiaccdaeomaogaaDoorR4
import Derived.Test.YtiaccdaeomaogaaDoorR20
namespace Go.Proofs.YtiaccdaeomaogaaDoor.F
open Go.RowKit Go.Proofs.YtiaccdaeomaogaaDoorW.PrintWords Go.Proofs.YtiaccdaeomaogaaDoorW.PrintLast Go.Proofs.YtiaccdaeomaogaaDoorW.PrintMore
attribute [local go_sem] max2_int min2_int max_two min_two max_three min_three max_four min_four   -- for this text's walks alone
set_option linter.unusedVariables false
set_option linter.unusedSimpArgs false
def malthouseref09_Bits.l0 : Nat → List (S43) → List ByteArray → Int → Option (List ByteArray)
  | 0, _, _, _ => none
  | k + 1, x0, x3, x4 => if x4 < (x0.length : Int) then (if 0 ≤ x4 then (if ((rd_T43 x0 x4).f0) = 0 then ((malthouseref09_Place.f k x3 ((rd_T43 x0 x4).f1)).bind fun t103 => (if t103 < 0 then (if x3.length < 8796093022208 then (malthouseref09_Bits.l0 k x0 (x3 ++ [(rd_T43 x0 x4).f1]) (wrap64 (x4 + 1))) else (none)) else (malthouseref09_Bits.l0 k x0 x3 (wrap64 (x4 + 1))))) else (if ((rd_T43 x0 x4).f0) = 1 then ((malthouseref09_Place.f k x3 ((rd_T43 x0 x4).f1)).bind fun t109 => (if t109 < 0 then (if x3.length < 8796093022208 then (malthouseref09_Bits.l0 k x0 (x3 ++ [(rd_T43 x0 x4).f1]) (wrap64 (x4 + 1))) else (none)) else (malthouseref09_Bits.l0 k x0 x3 (wrap64 (x4 + 1))))) else (if ((rd_T43 x0 x4).f0) = 2 then ((malthouseref09_Place.f k x3 ((rd_T43 x0 x4).f1)).bind fun t115 => (if t115 < 0 then (if x3.length < 8796093022208 then (malthouseref09_Bits.l0 k x0 (x3 ++ [(rd_T43 x0 x4).f1]) (wrap64 (x4 + 1))) else (none)) else (malthouseref09_Bits.l0 k x0 x3 (wrap64 (x4 + 1))))) else (malthouseref09_Bits.l0 k x0 x3 (wrap64 (x4 + 1)))))) else (none)) else (some x3)
def malthouseref09_Bits.f (k : Nat) (l0 : List (S43)) : Option (List ByteArray) := malthouseref09_Bits.l0 k l0 ([] : List ByteArray) 0
set_option maxHeartbeats 8000000 in
set_option maxRecDepth 100000 in
theorem malthouseref09_Bits.calls (k : Nat) (A0 : Option Addr) (c0 : Nat) (l0 : List (S43)) (r : List ByteArray) (w : World) (hr0 : Kd.C k43 w A0 l0.length l0) (hc0 : l0.length ≤ c0) (h : malthouseref09_Bits.f k l0 = some r) :
    Calls Tryd.prog 24 #[.slice A0 l0.length c0] w fun e w' => ∃ v0_ : Value, e = .returned (v0_) ∧ Kd.R Kd.string 9 w' w.heap.size (fun _ => True) v0_ r ∧ Below w.heap.size w w' := by
  have HR0 := Aside0.mk hr0
  have HC0 := Aside0.mk hc0
  clear hr0 hc0
  have HB := Aside0.mk (Below.refl w.heap.size w)
  have H : (malthouseref09_Bits.l0 k l0 ([] : List ByteArray) 0) = some r := h
  clear h
  have H' := Aside0.mk H
  clear H
  go_enter Tryd.func24, Tryd.ntmps24
  go_wp2
  go_loopg [3, 4] k (fun kq v3 v4 w' => ∃ (x3_1 : List ByteArray) (x4_1 : Int), v4 = .int .i64 x4_1 ∧ Aside0 (malthouseref09_Bits.l0 kq l0 x3_1 x4_1 = some r) ∧ Aside0 (kq ≤ k) ∧ Aside0 (Kd.R Kd.string 9 w' w.heap.size (fun _ => True) v3 x3_1) ∧ Aside0 (Below w.heap.size w w'))
  case atStart => exact ⟨(([] : List ByteArray)), (0), qv, H', ⟨Nat.le_refl _⟩, ⟨by first | exact Kd.R_nil _ _ _ _ _ | exact Kd.N_nil _ _ _ _ _ | exact Kd.V_nil _ _ _ _ _ | exact Kd.Q_nil _ _ _ _ _ | exact Kd.S_nil _ _ _ _ _⟩, qB⟩
  case round =>
    clear H'
    obtain ⟨x3_1, x4_1, rfl, HA, HK1, HO_3, HB⟩ := hrel
    cases gk with
    | zero => exact absurd HA.out (by simp [malthouseref09_Bits.l0])
    | succ k1 =>
      have H := HA.out
      clear HA
      simp only [malthouseref09_Bits.l0] at H
      by_cases c2 : x4_1 < (l0.length : Int)
      · rw [if_pos c2] at H
        have c2b0 : decide (x4_1 < (l0.length : Int)) = true := decide_eq_true c2
        clear c2
        by_cases c3 : 0 ≤ x4_1
        · rw [if_pos c3] at H
          have c3b0 : decide (0 ≤ x4_1) = true := decide_eq_true c3
          clear c3
          by_cases c4 : ((rd_T43 l0 x4_1).f0) = 0
          · rw [if_pos c4] at H
            obtain ⟨c4b0, c4b1⟩ := qe c4
            clear c4
            replace H := qi H
            obtain ⟨t103, A5, H⟩ := H
            by_cases c6 : t103 < 0
            · rw [if_pos c6] at H
              have c6b0 : decide (t103 < 0) = true := decide_eq_true c6
              clear c6
              by_cases c7 : x3_1.length < 8796093022208
              · rw [if_pos c7] at H
                have LMc7 := Aside0.mk c7
                clear c7
                obtain ⟨y105, hy105⟩ : ∃ y_ : List ByteArray, y_ = (x3_1 ++ [(rd_T43 l0 x4_1).f1]) := ⟨_, rfl⟩
                replace H : (malthouseref09_Bits.l0 k1 l0 y105 (wrap64 (x4_1 + 1))) = some r := by first | (rw [hy105]; with_reducible exact H) | (have H2_ := (Option.bind_some _ _).symm.trans H; rw [hy105]; with_reducible exact H2_) | (have H2_ := (Option.bind_some _ _).symm.trans H; with_reducible exact H2_) | with_reducible exact H | (rw [hy105]; exact H) | exact H
                have Ny105 := Aside0.mk hy105
                clear hy105
                have H' := Aside0.mk H
                clear H
                have p101 : 0 ≤ (x4_1 : Int) := qa
                have q101 : x4_1 < (l0.length : Int) := qa
                obtain ⟨ad101, A101_2, c101_2, e101, hx101_0, hx101_1, hx101_2, hl101_2, hi101_2⟩ := at_T43 HR0.out x4_1 p101 q101
                cases e101
                replace hx101_0 := qc HB.out hx101_0
                replace hx101_1 := qc HB.out hx101_1
                replace hx101_2 := qc HB.out hx101_2
                have HR101_2 := Aside0.mk hi101_2
                have HC101_2 := Aside0.mk hl101_2
                clear hi101_2 hl101_2
                replace p101 := eq_true p101
                replace q101 := eq_true q101
                have p102 : 0 ≤ (x4_1 : Int) := qa
                have q102 : x4_1 < (l0.length : Int) := qa
                obtain ⟨ad102, A102_2, c102_2, e102, hx102_0, hx102_1, hx102_2, hl102_2, hi102_2⟩ := at_T43 HR0.out x4_1 p102 q102
                obtain rfl : ad101 = ad102 := (by injection e102)
                replace hx102_0 := qc HB.out hx102_0
                replace hx102_1 := qc HB.out hx102_1
                replace hx102_2 := qc HB.out hx102_2
                have HR102_2 := Aside0.mk hi102_2
                have HC102_2 := Aside0.mk hl102_2
                clear hi102_2 hl102_2
                replace p102 := eq_true p102
                replace q102 := eq_true q102
                have ea_ := Option.some.inj (hx101_2.symm.trans hx102_2)
                injection ea_ with ea_ en_ ec_
                subst ea_
                subst ec_
                clear en_
                obtain ⟨Ao8, co8, eo8⟩ := Kd.R_slice HO_3.out
                subst eo8
                go_wp2_with (first | (go_at_call 33; (with_reducible refine (malthouseref09_Place.calls k1 _ _ x3_1 ((rd_T43 l0 x4_1).f1) t103 _ ?side1 ?side2 A5.out).mono ?_); (case side1 => repeat (first | exact (Kd.R_reads' HO_3.out).2.2 | (with_reducible refine Kd.C_alloc ?_ _) | (with_reducible refine Kd.C_drewN ?_ _) | (with_reducible refine Kd.C_drew ?_))); (case side2 => exact (Kd.R_reads' HO_3.out).2.1); rintro e w' ⟨rfl, ⟨nd, rfl⟩⟩; have p104 : 0 ≤ (x4_1 : Int) := qa; have q104 : x4_1 < (l0.length : Int) := qa; obtain ⟨ad104, A104_2, c104_2, e104, hx104_0, hx104_1, hx104_2, hl104_2, hi104_2⟩ := at_T43 HR0.out x4_1 p104 q104; obtain rfl : ad101 = ad104 := (by injection e104); replace hx104_0 := qc HB.out hx104_0; replace hx104_1 := qc HB.out hx104_1; replace hx104_2 := qc HB.out hx104_2; have HR104_2 := Aside0.mk hi104_2; have HC104_2 := Aside0.mk hl104_2; clear hi104_2 hl104_2; replace p104 := eq_true p104; replace q104 := eq_true q104; have ea_ := Option.some.inj (hx101_2.symm.trans hx104_2); injection ea_ with ea_ en_ ec_; subst ea_; subst ec_; clear en_) | ((with_reducible refine gate_builtin (b := .append) (xs := #[.tmp 37, .tmp 43]) rfl ?_); at_builtin; refine Kd.R_append Kd.string (w0 := w) w.heap.size rfl (.tmp 37) (.tmp 43) 23 9 (.string ⟨#[]⟩) 16 rfl Tryd.underlying23 info9 rfl (by decide) (by omega) (.slice Ao8 x3_1.length co8) x3_1 ((rd_T43 l0 x4_1).f1) [.string ((rd_T43 l0 x4_1).f1)] (fun _ => True) (fun _ => False) rfl rfl ?aP (fun _ hk => hk.elim) ?aF ?aO ?aB ?aS ?aL ?_; (case aP => exact rfl); (case aB => exact qb); (case aF => exact (fun _ _ => trivial)); (case aO => exact (by (with_reducible repeat (first | apply Kd.R_alloc | apply Kd.R_drewN | apply Kd.R_drew)); exact HO_3.out)); (case aS => exact (below_size qb)); (case aL => have := LMc7.out; omega); intro v106 w9 ho hb hg hat; rw [← Ny105.out] at ho; have n0_ := Aside0.mk (hb); have n1_ := Aside0.mk (ho); clear HB; clear HO_3; have HB := n0_; have HO107 := n1_; clear n0_ n1_; clear ho hb hg hat))
                go_roundg k1
                case measure => have := HK1.out; omega
                case rel => exact ⟨(y105), (wrap64 (x4_1 + 1)), qv, H', ⟨by have := HK1.out; omega⟩, ⟨by (with_reducible repeat (first | apply Kd.R_alloc | apply Kd.R_drewN | apply Kd.R_drew)); exact HO107.out⟩, qB⟩
              rw [if_neg c7] at H
              exact absurd H (by simp)
            rw [if_neg c6] at H
            have c6b0 : decide (t103 < 0) = false := decide_eq_false c6
            clear c6
            have H' := Aside0.mk H
            clear H
            have p101 : 0 ≤ (x4_1 : Int) := qa
            have q101 : x4_1 < (l0.length : Int) := qa
            obtain ⟨ad101, A101_2, c101_2, e101, hx101_0, hx101_1, hx101_2, hl101_2, hi101_2⟩ := at_T43 HR0.out x4_1 p101 q101
            cases e101
            replace hx101_0 := qc HB.out hx101_0
            replace hx101_1 := qc HB.out hx101_1
            replace hx101_2 := qc HB.out hx101_2
            have HR101_2 := Aside0.mk hi101_2
            have HC101_2 := Aside0.mk hl101_2
            clear hi101_2 hl101_2
            replace p101 := eq_true p101
            replace q101 := eq_true q101
            have p102 : 0 ≤ (x4_1 : Int) := qa
            have q102 : x4_1 < (l0.length : Int) := qa
            obtain ⟨ad102, A102_2, c102_2, e102, hx102_0, hx102_1, hx102_2, hl102_2, hi102_2⟩ := at_T43 HR0.out x4_1 p102 q102
            obtain rfl : ad101 = ad102 := (by injection e102)
            replace hx102_0 := qc HB.out hx102_0
            replace hx102_1 := qc HB.out hx102_1
            replace hx102_2 := qc HB.out hx102_2
            have HR102_2 := Aside0.mk hi102_2
            have HC102_2 := Aside0.mk hl102_2
            clear hi102_2 hl102_2
            replace p102 := eq_true p102
            replace q102 := eq_true q102
            have ea_ := Option.some.inj (hx101_2.symm.trans hx102_2)
            injection ea_ with ea_ en_ ec_
            subst ea_
            subst ec_
            clear en_
            obtain ⟨Ao10, co10, eo10⟩ := Kd.R_slice HO_3.out
            subst eo10
            go_wp2_with (first | (go_at_call 33; (with_reducible refine (malthouseref09_Place.calls k1 _ _ x3_1 ((rd_T43 l0 x4_1).f1) t103 _ ?side1 ?side2 A5.out).mono ?_); (case side1 => repeat (first | exact (Kd.R_reads' HO_3.out).2.2 | (with_reducible refine Kd.C_alloc ?_ _) | (with_reducible refine Kd.C_drewN ?_ _) | (with_reducible refine Kd.C_drew ?_))); (case side2 => exact (Kd.R_reads' HO_3.out).2.1); rintro e w' ⟨rfl, ⟨nd, rfl⟩⟩))
            go_roundg k1
            case measure => have := HK1.out; omega
            case rel => exact ⟨(x3_1), (wrap64 (x4_1 + 1)), qv, H', ⟨by have := HK1.out; omega⟩, ⟨by (with_reducible repeat (first | apply Kd.R_alloc | apply Kd.R_drewN | apply Kd.R_drew)); exact HO_3.out⟩, qB⟩
          rw [if_neg c4] at H
          obtain ⟨c4b0, c4b1⟩ := qd c4
          by_cases c11 : ((rd_T43 l0 x4_1).f0) = 1
          · rw [if_pos c11] at H
            obtain ⟨c11b0, c11b1⟩ := qe c11
            clear c11
            replace H := qi H
            obtain ⟨t109, A12, H⟩ := H
            by_cases c13 : t109 < 0
            · rw [if_pos c13] at H
              have c13b0 : decide (t109 < 0) = true := decide_eq_true c13
              clear c13
              by_cases c14 : x3_1.length < 8796093022208
              · rw [if_pos c14] at H
                have LMc14 := Aside0.mk c14
                clear c14
                obtain ⟨y111, hy111⟩ : ∃ y_ : List ByteArray, y_ = (x3_1 ++ [(rd_T43 l0 x4_1).f1]) := ⟨_, rfl⟩
                replace H : (malthouseref09_Bits.l0 k1 l0 y111 (wrap64 (x4_1 + 1))) = some r := by first | (rw [hy111]; with_reducible exact H) | (have H2_ := (Option.bind_some _ _).symm.trans H; rw [hy111]; with_reducible exact H2_) | (have H2_ := (Option.bind_some _ _).symm.trans H; with_reducible exact H2_) | with_reducible exact H | (rw [hy111]; exact H) | exact H
                have Ny111 := Aside0.mk hy111
                clear hy111
                have H' := Aside0.mk H
                clear H
                have p101 : 0 ≤ (x4_1 : Int) := qa
                have q101 : x4_1 < (l0.length : Int) := qa
                obtain ⟨ad101, A101_2, c101_2, e101, hx101_0, hx101_1, hx101_2, hl101_2, hi101_2⟩ := at_T43 HR0.out x4_1 p101 q101
                cases e101
                replace hx101_0 := qc HB.out hx101_0
                replace hx101_1 := qc HB.out hx101_1
                replace hx101_2 := qc HB.out hx101_2
                have HR101_2 := Aside0.mk hi101_2
                have HC101_2 := Aside0.mk hl101_2
                clear hi101_2 hl101_2
                replace p101 := eq_true p101
                replace q101 := eq_true q101
                have p108 : 0 ≤ (x4_1 : Int) := qa
                have q108 : x4_1 < (l0.length : Int) := qa
                obtain ⟨ad108, A108_2, c108_2, e108, hx108_0, hx108_1, hx108_2, hl108_2, hi108_2⟩ := at_T43 HR0.out x4_1 p108 q108
                obtain rfl : ad101 = ad108 := (by injection e108)
                replace hx108_0 := qc HB.out hx108_0
                replace hx108_1 := qc HB.out hx108_1
                replace hx108_2 := qc HB.out hx108_2
                have HR108_2 := Aside0.mk hi108_2
                have HC108_2 := Aside0.mk hl108_2
                clear hi108_2 hl108_2
                replace p108 := eq_true p108
                replace q108 := eq_true q108
                have ea_ := Option.some.inj (hx101_2.symm.trans hx108_2)
                injection ea_ with ea_ en_ ec_
                subst ea_
                subst ec_
                clear en_
                obtain ⟨Ao15, co15, eo15⟩ := Kd.R_slice HO_3.out
                subst eo15
                go_wp2_with (first | (go_at_call 33; (with_reducible refine (malthouseref09_Place.calls k1 _ _ x3_1 ((rd_T43 l0 x4_1).f1) t109 _ ?side1 ?side2 A12.out).mono ?_); (case side1 => repeat (first | exact (Kd.R_reads' HO_3.out).2.2 | (with_reducible refine Kd.C_alloc ?_ _) | (with_reducible refine Kd.C_drewN ?_ _) | (with_reducible refine Kd.C_drew ?_))); (case side2 => exact (Kd.R_reads' HO_3.out).2.1); rintro e w' ⟨rfl, ⟨nd, rfl⟩⟩; have p110 : 0 ≤ (x4_1 : Int) := qa; have q110 : x4_1 < (l0.length : Int) := qa; obtain ⟨ad110, A110_2, c110_2, e110, hx110_0, hx110_1, hx110_2, hl110_2, hi110_2⟩ := at_T43 HR0.out x4_1 p110 q110; obtain rfl : ad101 = ad110 := (by injection e110); replace hx110_0 := qc HB.out hx110_0; replace hx110_1 := qc HB.out hx110_1; replace hx110_2 := qc HB.out hx110_2; have HR110_2 := Aside0.mk hi110_2; have HC110_2 := Aside0.mk hl110_2; clear hi110_2 hl110_2; replace p110 := eq_true p110; replace q110 := eq_true q110; have ea_ := Option.some.inj (hx101_2.symm.trans hx110_2); injection ea_ with ea_ en_ ec_; subst ea_; subst ec_; clear en_) | ((with_reducible refine gate_builtin (b := .append) (xs := #[.tmp 37, .tmp 43]) rfl ?_); at_builtin; refine Kd.R_append Kd.string (w0 := w) w.heap.size rfl (.tmp 37) (.tmp 43) 23 9 (.string ⟨#[]⟩) 16 rfl Tryd.underlying23 info9 rfl (by decide) (by omega) (.slice Ao15 x3_1.length co15) x3_1 ((rd_T43 l0 x4_1).f1) [.string ((rd_T43 l0 x4_1).f1)] (fun _ => True) (fun _ => False) rfl rfl ?aP (fun _ hk => hk.elim) ?aF ?aO ?aB ?aS ?aL ?_; (case aP => exact rfl); (case aB => exact qb); (case aF => exact (fun _ _ => trivial)); (case aO => exact (by (with_reducible repeat (first | apply Kd.R_alloc | apply Kd.R_drewN | apply Kd.R_drew)); exact HO_3.out)); (case aS => exact (below_size qb)); (case aL => have := LMc14.out; omega); intro v112 w16 ho hb hg hat; rw [← Ny111.out] at ho; have n0_ := Aside0.mk (hb); have n1_ := Aside0.mk (ho); clear HB; clear HO_3; have HB := n0_; have HO113 := n1_; clear n0_ n1_; clear ho hb hg hat))
                go_roundg k1
                case measure => have := HK1.out; omega
                case rel => exact ⟨(y111), (wrap64 (x4_1 + 1)), qv, H', ⟨by have := HK1.out; omega⟩, ⟨by (with_reducible repeat (first | apply Kd.R_alloc | apply Kd.R_drewN | apply Kd.R_drew)); exact HO113.out⟩, qB⟩
              rw [if_neg c14] at H
              exact absurd H (by simp)
            rw [if_neg c13] at H
            have c13b0 : decide (t109 < 0) = false := decide_eq_false c13
            clear c13
            have H' := Aside0.mk H
            clear H
            have p101 : 0 ≤ (x4_1 : Int) := qa
            have q101 : x4_1 < (l0.length : Int) := qa
            obtain ⟨ad101, A101_2, c101_2, e101, hx101_0, hx101_1, hx101_2, hl101_2, hi101_2⟩ := at_T43 HR0.out x4_1 p101 q101
            cases e101
            replace hx101_0 := qc HB.out hx101_0
            replace hx101_1 := qc HB.out hx101_1
            replace hx101_2 := qc HB.out hx101_2
            have HR101_2 := Aside0.mk hi101_2
            have HC101_2 := Aside0.mk hl101_2
            clear hi101_2 hl101_2
            replace p101 := eq_true p101
            replace q101 := eq_true q101
            have p108 : 0 ≤ (x4_1 : Int) := qa
            have q108 : x4_1 < (l0.length : Int) := qa
            obtain ⟨ad108, A108_2, c108_2, e108, hx108_0, hx108_1, hx108_2, hl108_2, hi108_2⟩ := at_T43 HR0.out x4_1 p108 q108
            obtain rfl : ad101 = ad108 := (by injection e108)
            replace hx108_0 := qc HB.out hx108_0
            replace hx108_1 := qc HB.out hx108_1
            replace hx108_2 := qc HB.out hx108_2
            have HR108_2 := Aside0.mk hi108_2
            have HC108_2 := Aside0.mk hl108_2
            clear hi108_2 hl108_2
            replace p108 := eq_true p108
            replace q108 := eq_true q108
            have ea_ := Option.some.inj (hx101_2.symm.trans hx108_2)
            injection ea_ with ea_ en_ ec_
            subst ea_
            subst ec_
            clear en_
            obtain ⟨Ao17, co17, eo17⟩ := Kd.R_slice HO_3.out
            subst eo17
            go_wp2_with (first | (go_at_call 33; (with_reducible refine (malthouseref09_Place.calls k1 _ _ x3_1 ((rd_T43 l0 x4_1).f1) t109 _ ?side1 ?side2 A12.out).mono ?_); (case side1 => repeat (first | exact (Kd.R_reads' HO_3.out).2.2 | (with_reducible refine Kd.C_alloc ?_ _) | (with_reducible refine Kd.C_drewN ?_ _) | (with_reducible refine Kd.C_drew ?_))); (case side2 => exact (Kd.R_reads' HO_3.out).2.1); rintro e w' ⟨rfl, ⟨nd, rfl⟩⟩))
            go_roundg k1
            case measure => have := HK1.out; omega
            case rel => exact ⟨(x3_1), (wrap64 (x4_1 + 1)), qv, H', ⟨by have := HK1.out; omega⟩, ⟨by (with_reducible repeat (first | apply Kd.R_alloc | apply Kd.R_drewN | apply Kd.R_drew)); exact HO_3.out⟩, qB⟩
          rw [if_neg c11] at H
          obtain ⟨c11b0, c11b1⟩ := qd c11
          by_cases c18 : ((rd_T43 l0 x4_1).f0) = 2
          · rw [if_pos c18] at H
            obtain ⟨c18b0, c18b1⟩ := qe c18
            clear c18
            replace H := qi H
            obtain ⟨t115, A19, H⟩ := H
            by_cases c20 : t115 < 0
            · rw [if_pos c20] at H
              have c20b0 : decide (t115 < 0) = true := decide_eq_true c20
              clear c20
              by_cases c21 : x3_1.length < 8796093022208
              · rw [if_pos c21] at H
                have LMc21 := Aside0.mk c21
                clear c21
                obtain ⟨y117, hy117⟩ : ∃ y_ : List ByteArray, y_ = (x3_1 ++ [(rd_T43 l0 x4_1).f1]) := ⟨_, rfl⟩
                replace H : (malthouseref09_Bits.l0 k1 l0 y117 (wrap64 (x4_1 + 1))) = some r := by first | (rw [hy117]; with_reducible exact H) | (have H2_ := (Option.bind_some _ _).symm.trans H; rw [hy117]; with_reducible exact H2_) | (have H2_ := (Option.bind_some _ _).symm.trans H; with_reducible exact H2_) | with_reducible exact H | (rw [hy117]; exact H) | exact H
                have Ny117 := Aside0.mk hy117
                clear hy117
                have H' := Aside0.mk H
                clear H
                have p101 : 0 ≤ (x4_1 : Int) := qa
                have q101 : x4_1 < (l0.length : Int) := qa
                obtain ⟨ad101, A101_2, c101_2, e101, hx101_0, hx101_1, hx101_2, hl101_2, hi101_2⟩ := at_T43 HR0.out x4_1 p101 q101
                cases e101
                replace hx101_0 := qc HB.out hx101_0
                replace hx101_1 := qc HB.out hx101_1
                replace hx101_2 := qc HB.out hx101_2
                have HR101_2 := Aside0.mk hi101_2
                have HC101_2 := Aside0.mk hl101_2
                clear hi101_2 hl101_2
                replace p101 := eq_true p101
                replace q101 := eq_true q101
                have p114 : 0 ≤ (x4_1 : Int) := qa
                have q114 : x4_1 < (l0.length : Int) := qa
                obtain ⟨ad114, A114_2, c114_2, e114, hx114_0, hx114_1, hx114_2, hl114_2, hi114_2⟩ := at_T43 HR0.out x4_1 p114 q114
                obtain rfl : ad101 = ad114 := (by injection e114)
                replace hx114_0 := qc HB.out hx114_0
                replace hx114_1 := qc HB.out hx114_1
                replace hx114_2 := qc HB.out hx114_2
                have HR114_2 := Aside0.mk hi114_2
                have HC114_2 := Aside0.mk hl114_2
                clear hi114_2 hl114_2
                replace p114 := eq_true p114
                replace q114 := eq_true q114
                have ea_ := Option.some.inj (hx101_2.symm.trans hx114_2)
                injection ea_ with ea_ en_ ec_
                subst ea_
                subst ec_
                clear en_
                obtain ⟨Ao22, co22, eo22⟩ := Kd.R_slice HO_3.out
                subst eo22
                go_wp2_with (first | (go_at_call 33; (with_reducible refine (malthouseref09_Place.calls k1 _ _ x3_1 ((rd_T43 l0 x4_1).f1) t115 _ ?side1 ?side2 A19.out).mono ?_); (case side1 => repeat (first | exact (Kd.R_reads' HO_3.out).2.2 | (with_reducible refine Kd.C_alloc ?_ _) | (with_reducible refine Kd.C_drewN ?_ _) | (with_reducible refine Kd.C_drew ?_))); (case side2 => exact (Kd.R_reads' HO_3.out).2.1); rintro e w' ⟨rfl, ⟨nd, rfl⟩⟩; have p116 : 0 ≤ (x4_1 : Int) := qa; have q116 : x4_1 < (l0.length : Int) := qa; obtain ⟨ad116, A116_2, c116_2, e116, hx116_0, hx116_1, hx116_2, hl116_2, hi116_2⟩ := at_T43 HR0.out x4_1 p116 q116; obtain rfl : ad101 = ad116 := (by injection e116); replace hx116_0 := qc HB.out hx116_0; replace hx116_1 := qc HB.out hx116_1; replace hx116_2 := qc HB.out hx116_2; have HR116_2 := Aside0.mk hi116_2; have HC116_2 := Aside0.mk hl116_2; clear hi116_2 hl116_2; replace p116 := eq_true p116; replace q116 := eq_true q116; have ea_ := Option.some.inj (hx101_2.symm.trans hx116_2); injection ea_ with ea_ en_ ec_; subst ea_; subst ec_; clear en_) | ((with_reducible refine gate_builtin (b := .append) (xs := #[.tmp 37, .tmp 43]) rfl ?_); at_builtin; refine Kd.R_append Kd.string (w0 := w) w.heap.size rfl (.tmp 37) (.tmp 43) 23 9 (.string ⟨#[]⟩) 16 rfl Tryd.underlying23 info9 rfl (by decide) (by omega) (.slice Ao22 x3_1.length co22) x3_1 ((rd_T43 l0 x4_1).f1) [.string ((rd_T43 l0 x4_1).f1)] (fun _ => True) (fun _ => False) rfl rfl ?aP (fun _ hk => hk.elim) ?aF ?aO ?aB ?aS ?aL ?_; (case aP => exact rfl); (case aB => exact qb); (case aF => exact (fun _ _ => trivial)); (case aO => exact (by (with_reducible repeat (first | apply Kd.R_alloc | apply Kd.R_drewN | apply Kd.R_drew)); exact HO_3.out)); (case aS => exact (below_size qb)); (case aL => have := LMc21.out; omega); intro v118 w23 ho hb hg hat; rw [← Ny117.out] at ho; have n0_ := Aside0.mk (hb); have n1_ := Aside0.mk (ho); clear HB; clear HO_3; have HB := n0_; have HO119 := n1_; clear n0_ n1_; clear ho hb hg hat))
                go_roundg k1
                case measure => have := HK1.out; omega
                case rel => exact ⟨(y117), (wrap64 (x4_1 + 1)), qv, H', ⟨by have := HK1.out; omega⟩, ⟨by (with_reducible repeat (first | apply Kd.R_alloc | apply Kd.R_drewN | apply Kd.R_drew)); exact HO119.out⟩, qB⟩
              rw [if_neg c21] at H
              exact absurd H (by simp)
            rw [if_neg c20] at H
            have c20b0 : decide (t115 < 0) = false := decide_eq_false c20
            clear c20
            have H' := Aside0.mk H
            clear H
            have p101 : 0 ≤ (x4_1 : Int) := qa
            have q101 : x4_1 < (l0.length : Int) := qa
            obtain ⟨ad101, A101_2, c101_2, e101, hx101_0, hx101_1, hx101_2, hl101_2, hi101_2⟩ := at_T43 HR0.out x4_1 p101 q101
            cases e101
            replace hx101_0 := qc HB.out hx101_0
            replace hx101_1 := qc HB.out hx101_1
            replace hx101_2 := qc HB.out hx101_2
            have HR101_2 := Aside0.mk hi101_2
            have HC101_2 := Aside0.mk hl101_2
            clear hi101_2 hl101_2
            replace p101 := eq_true p101
            replace q101 := eq_true q101
            have p114 : 0 ≤ (x4_1 : Int) := qa
            have q114 : x4_1 < (l0.length : Int) := qa
            obtain ⟨ad114, A114_2, c114_2, e114, hx114_0, hx114_1, hx114_2, hl114_2, hi114_2⟩ := at_T43 HR0.out x4_1 p114 q114
            obtain rfl : ad101 = ad114 := (by injection e114)
            replace hx114_0 := qc HB.out hx114_0
            replace hx114_1 := qc HB.out hx114_1
            replace hx114_2 := qc HB.out hx114_2
            have HR114_2 := Aside0.mk hi114_2
            have HC114_2 := Aside0.mk hl114_2
            clear hi114_2 hl114_2
            replace p114 := eq_true p114
            replace q114 := eq_true q114
            have ea_ := Option.some.inj (hx101_2.symm.trans hx114_2)
            injection ea_ with ea_ en_ ec_
            subst ea_
            subst ec_
            clear en_
            obtain ⟨Ao24, co24, eo24⟩ := Kd.R_slice HO_3.out
            subst eo24
            go_wp2_with (first | (go_at_call 33; (with_reducible refine (malthouseref09_Place.calls k1 _ _ x3_1 ((rd_T43 l0 x4_1).f1) t115 _ ?side1 ?side2 A19.out).mono ?_); (case side1 => repeat (first | exact (Kd.R_reads' HO_3.out).2.2 | (with_reducible refine Kd.C_alloc ?_ _) | (with_reducible refine Kd.C_drewN ?_ _) | (with_reducible refine Kd.C_drew ?_))); (case side2 => exact (Kd.R_reads' HO_3.out).2.1); rintro e w' ⟨rfl, ⟨nd, rfl⟩⟩))
            go_roundg k1
            case measure => have := HK1.out; omega
            case rel => exact ⟨(x3_1), (wrap64 (x4_1 + 1)), qv, H', ⟨by have := HK1.out; omega⟩, ⟨by (with_reducible repeat (first | apply Kd.R_alloc | apply Kd.R_drewN | apply Kd.R_drew)); exact HO_3.out⟩, qB⟩
          rw [if_neg c18] at H
          obtain ⟨c18b0, c18b1⟩ := qd c18
          have H' := Aside0.mk H
          clear H
          have p101 : 0 ≤ (x4_1 : Int) := qa
          have q101 : x4_1 < (l0.length : Int) := qa
          obtain ⟨ad101, A101_2, c101_2, e101, hx101_0, hx101_1, hx101_2, hl101_2, hi101_2⟩ := at_T43 HR0.out x4_1 p101 q101
          cases e101
          replace hx101_0 := qc HB.out hx101_0
          replace hx101_1 := qc HB.out hx101_1
          replace hx101_2 := qc HB.out hx101_2
          have HR101_2 := Aside0.mk hi101_2
          have HC101_2 := Aside0.mk hl101_2
          clear hi101_2 hl101_2
          replace p101 := eq_true p101
          replace q101 := eq_true q101
          go_wp2
          go_roundg k1
          case measure => have := HK1.out; omega
          case rel => exact ⟨(x3_1), (wrap64 (x4_1 + 1)), qv, H', ⟨by have := HK1.out; omega⟩, ⟨by (with_reducible repeat (first | apply Kd.R_alloc | apply Kd.R_drewN | apply Kd.R_drew)); exact HO_3.out⟩, qB⟩
        rw [if_neg c3] at H
        exact absurd H (by simp)
      rw [if_neg c2] at H
      have c2b0 : decide (x4_1 < (l0.length : Int)) = false := decide_eq_false c2
      clear c2
      obtain rfl := Option.some.inj H
      go_wp2
      go_ret
      exact ⟨_, by first | rfl | (simp [errW_none, errW_some] <;> rfl) | (simp [*, errW_none, errW_some] <;> rfl), by (with_reducible repeat (first | apply Kd.R_alloc | apply Kd.R_drewN | apply Kd.R_drew)); exact HO_3.out, qb⟩
def malthouseref09_bit.f (a0 : Int) : Option (Bool) := if a0 = 0 then (some true) else (if a0 = 1 then (some true) else (if a0 = 3 then (some true) else (if a0 = 4 then (some true) else (if a0 = 5 then (some true) else (if a0 = 6 then (some true) else (some false))))))
set_option maxHeartbeats 8000000 in
set_option maxRecDepth 100000 in
theorem malthouseref09_bit.calls (a0 : Int) (r : Bool) (w : World) (h : malthouseref09_bit.f a0 = some r) :
  Calls Tryd.prog 127 #[.int .i64 a0] w fun e w' => e = .returned (.bool r) ∧ Drawn0 w w' := by
 have H : (if a0 = 0 then (some true) else (if a0 = 1 then (some true) else (if a0 = 3 then (some true) else (if a0 = 4 then (some true) else (if a0 = 5 then (some true) else (if a0 = 6 then (some true) else (some false))))))) = some r := h
 clear h
 by_cases c2 : a0 = 0
 ·rw [if_pos c2] at H
  obtain ⟨c2b0, c2b1⟩ := qe c2
  clear c2
  obtain rfl := Option.some.inj H
  go_enter Tryd.func127, Tryd.ntmps127
  go_wp2
  go_ret
  exact ⟨by first | rfl | (simp; done) | (simp [*]; done), by repeat (first | exact Drawn0.refl _ | apply Drawn0.step)⟩
 rw [if_neg c2] at H
 obtain ⟨c2b0, c2b1⟩ := qd c2
 by_cases c3 : a0 = 1
 ·rw [if_pos c3] at H
  obtain ⟨c3b0, c3b1⟩ := qe c3
  clear c3
  obtain rfl := Option.some.inj H
  go_enter Tryd.func127, Tryd.ntmps127
  go_wp2
  go_ret
  exact ⟨by first | rfl | (simp; done) | (simp [*]; done), by repeat (first | exact Drawn0.refl _ | apply Drawn0.step)⟩
 rw [if_neg c3] at H
 obtain ⟨c3b0, c3b1⟩ := qd c3
 by_cases c4 : a0 = 3
 ·rw [if_pos c4] at H
  obtain ⟨c4b0, c4b1⟩ := qe c4
  clear c4
  obtain rfl := Option.some.inj H
  go_enter Tryd.func127, Tryd.ntmps127
  go_wp2
  go_ret
  exact ⟨by first | rfl | (simp; done) | (simp [*]; done), by repeat (first | exact Drawn0.refl _ | apply Drawn0.step)⟩
 rw [if_neg c4] at H
 obtain ⟨c4b0, c4b1⟩ := qd c4
 by_cases c5 : a0 = 4
 ·rw [if_pos c5] at H
  obtain ⟨c5b0, c5b1⟩ := qe c5
  clear c5
  obtain rfl := Option.some.inj H
  go_enter Tryd.func127, Tryd.ntmps127
  go_wp2
  go_ret
  exact ⟨by first | rfl | (simp; done) | (simp [*]; done), by repeat (first | exact Drawn0.refl _ | apply Drawn0.step)⟩
 rw [if_neg c5] at H
 obtain ⟨c5b0, c5b1⟩ := qd c5
 by_cases c6 : a0 = 5
 ·rw [if_pos c6] at H
  obtain ⟨c6b0, c6b1⟩ := qe c6
  clear c6
  obtain rfl := Option.some.inj H
  go_enter Tryd.func127, Tryd.ntmps127
  go_wp2
  go_ret
  exact ⟨by first | rfl | (simp; done) | (simp [*]; done), by repeat (first | exact Drawn0.refl _ | apply Drawn0.step)⟩
 rw [if_neg c6] at H
 obtain ⟨c6b0, c6b1⟩ := qd c6
 by_cases c7 : a0 = 6
 ·rw [if_pos c7] at H
  obtain ⟨c7b0, c7b1⟩ := qe c7
  clear c7
  obtain rfl := Option.some.inj H
  go_enter Tryd.func127, Tryd.ntmps127
  go_wp2
  go_ret
  exact ⟨by first | rfl | (simp; done) | (simp [*]; done), by repeat (first | exact Drawn0.refl _ | apply Drawn0.step)⟩
 rw [if_neg c7] at H
 obtain ⟨c7b0, c7b1⟩ := qd c7
 obtain rfl := Option.some.inj H
 go_enter Tryd.func127, Tryd.ntmps127
 go_wp2
 go_ret
 exact ⟨by first | rfl | (simp; done) | (simp [*]; done), by repeat (first | exact Drawn0.refl _ | apply Drawn0.step)⟩
def malthouseref09_needs.j0 : Nat → Int → Bool → Option (Int)
  | 0, _, _ => none
  | k + 1, x3, x4 => if x4 = true then (some 0) else (if x3 = 7 then (some 2) else (if x3 = 8 then (some 2) else (some 1)))
def malthouseref09_needs.f (k : Nat) (a0 : Int) : Option (Int) := if a0 = 0 then (malthouseref09_needs.j0 k a0 (a0 == 0)) else (if a0 = 1 then (malthouseref09_needs.j0 k a0 (a0 == 1)) else (malthouseref09_needs.j0 k a0 (a0 == 2)))
set_option maxHeartbeats 8000000 in
set_option maxRecDepth 100000 in
theorem malthouseref09_needs.calls (k : Nat) (a0 : Int) (r : Int) (w : World) (h : malthouseref09_needs.f k a0 = some r) :
    Calls Tryd.prog 128 #[.int .i64 a0] w fun e w' => e = .returned (.int .i64 r) ∧ Drawn0 w w' := by
  have H : (if a0 = 0 then (malthouseref09_needs.j0 k a0 (a0 == 0)) else (if a0 = 1 then (malthouseref09_needs.j0 k a0 (a0 == 1)) else (malthouseref09_needs.j0 k a0 (a0 == 2)))) = some r := h
  clear h
  have HC2 := Aside0.mk H
  clear H
  go_enter Tryd.func128, Tryd.ntmps128
  go_upto_if 4 with (fail)
  go_cut [4] (fun v4 wc => ∃ (kq : Nat) (x4_1 : Bool), v4 = .bool x4_1 ∧ Aside0 (malthouseref09_needs.j0 kq a0 x4_1 = some r) ∧ Aside0 (kq ≤ k) ∧ Drawn0 w wc)
  case first =>
    have H := HC2.out
    clear HC2
    by_cases c3 : a0 = 0
    · rw [if_pos c3] at H
      obtain ⟨c3b0, c3b1⟩ := qe c3
      clear c3
      (first | rw [c3b0] | (simp only [i64_w, i32_w]; rw [c3b0]) | skip)
      have H' := Aside0.mk H
      clear H
      go_wp2
      go_meet
      case rel => exact ⟨_, ((a0 == 0)), qv, H', ql, by repeat (first | exact Drawn0.refl _ | apply Drawn0.step)⟩
    rw [if_neg c3] at H
    obtain ⟨c3b0, c3b1⟩ := qd c3
    (first | rw [c3b0] | (simp only [i64_w, i32_w]; rw [c3b0]) | skip)
    by_cases c4 : a0 = 1
    · rw [if_pos c4] at H
      obtain ⟨c4b0, c4b1⟩ := qe c4
      clear c4
      have H' := Aside0.mk H
      clear H
      go_wp2
      go_meet
      case rel => exact ⟨_, ((a0 == 1)), qv, H', ql, by repeat (first | exact Drawn0.refl _ | apply Drawn0.step)⟩
    rw [if_neg c4] at H
    obtain ⟨c4b0, c4b1⟩ := qd c4
    have H' := Aside0.mk H
    clear H
    go_wp2
    go_meet
    case rel => exact ⟨_, ((a0 == 2)), qv, H', ql, by repeat (first | exact Drawn0.refl _ | apply Drawn0.step)⟩
  clear HC2
  obtain ⟨kq, x4_1, rfl, HA, HJ1, ⟨mc1, rfl⟩⟩ := hcut
  cases kq with
  | zero => exact absurd HA.out (by simp [malthouseref09_needs.j0])
  | succ kj1 =>
    have H := HA.out
    clear HA
    simp only [malthouseref09_needs.j0] at H
    by_cases c5 : x4_1 = true
    · subst c5
      rw [if_pos rfl] at H
      obtain rfl := Option.some.inj H
      go_wp2
      go_ret
      exact ⟨by first | rfl | (simp; done) | (simp [*]; done), by repeat (first | exact Drawn0.refl _ | apply Drawn0.step)⟩
    replace c5 := Bool.eq_false_iff.mpr c5
    subst c5
    rw [if_neg qf] at H
    by_cases c6 : a0 = 7
    · rw [if_pos c6] at H
      obtain ⟨c6b0, c6b1⟩ := qe c6
      clear c6
      obtain rfl := Option.some.inj H
      go_wp2
      go_ret
      exact ⟨by first | rfl | (simp; done) | (simp [*]; done), by repeat (first | exact Drawn0.refl _ | apply Drawn0.step)⟩
    rw [if_neg c6] at H
    obtain ⟨c6b0, c6b1⟩ := qd c6
    by_cases c7 : a0 = 8
    · rw [if_pos c7] at H
      obtain ⟨c7b0, c7b1⟩ := qe c7
      clear c7
      obtain rfl := Option.some.inj H
      go_wp2
      go_ret
      exact ⟨by first | rfl | (simp; done) | (simp [*]; done), by repeat (first | exact Drawn0.refl _ | apply Drawn0.step)⟩
    rw [if_neg c7] at H
    obtain ⟨c7b0, c7b1⟩ := qd c7
    obtain rfl := Option.some.inj H
    go_wp2
    go_ret
    exact ⟨by first | rfl | (simp; done) | (simp [*]; done), by repeat (first | exact Drawn0.refl _ | apply Drawn0.step)⟩
end Go.Proofs.YtiaccdaeomaogaaDoor.F
