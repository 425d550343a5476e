/- Texts of one claim, slimmed and merged by slim.py. -/
import Derived.Test.YtiaccdaeomaogaaDoorR4
import Derived.Test.YtiaccdaeomaogaaDoorR7
import Derived.Test.YtiaccdaeomaogaaDoorR13
import Derived.Test.YtiaccdaeomaogaaDoorR20
import Derived.Test.YtiaccdaeomaogaaDoorR23
import Derived.Test.YtiaccdaeomaogaaDoorR24
import Derived.Test.YtiaccdaeomaogaaDoorR25
import Derived.Test.YtiaccdaeomaogaaDoorR34
import Derived.Test.YtiaccdaeomaogaaDoorR36
import Derived.Test.YtiaccdaeomaogaaDoorR37
namespace Go.Proofs.YtiaccdaeomaogaaDoor.F
open Go.RowKit Go.Proofs.YtiaccdaeomaogaaDoorW.PrintWords Go.Proofs.YtiaccdaeomaogaaDoorW.PrintLast Go.Proofs.YtiaccdaeomaogaaDoorW.PrintMore
attribute [local go_sem] max2_int min2_int max_two min_two max_three min_three max_four min_four   -- for this text's walks alone
set_option linter.unusedVariables false
set_option linter.unusedSimpArgs false
def malthouselaw09_RungChecks.j0 : Nat → List (S43) → List ByteArray → List ByteArray → Bool → Bool → Option (Bool)
  | 0, _, _, _, _, _ => none
  | k + 1, x0, x1, x2, x7, x32 => if x32 = true then (some x7) else ((rung_Bits.f k x0).bind fun t105 => ((malthouseref09_Bits.f k x0).bind fun t108 => ((malthouseref09_Texts.f k t105 t108).bind fun t111 => (if t111 = true then ((rung_Check.f k x0 x1 x2).bind fun t112 => ((malthouseref09_Check.f k x0 x1 x2).bind fun t113 => (some (t112 == t113)))) else (some false)))))
def malthouselaw09_RungChecks.f (k : Nat) (l0 : List (S43)) (l1 : List ByteArray) (l2 : List ByteArray) : Option (Bool) := (malthouselaw09_awake.f k).bind fun t101 => ((malthouseref09_Light.f k l0).bind fun t102 => ((malthouselaw09_names.f k l1).bind fun t103 => ((malthouselaw09_names.f k l2).bind fun t104 => (if t101 = true then (if t102 = true then (if t103 = true then (malthouselaw09_RungChecks.j0 k l0 l1 l2 t101 (!t104)) else (malthouselaw09_RungChecks.j0 k l0 l1 l2 t101 true)) else (malthouselaw09_RungChecks.j0 k l0 l1 l2 t101 true)) else (malthouselaw09_RungChecks.j0 k l0 l1 l2 t101 true)))))
set_option maxHeartbeats 8000000 in
set_option maxRecDepth 100000 in
theorem malthouselaw09_RungChecks.calls (k : Nat) (A0 : Option Addr) (c0 : Nat) (l0 : List (S43)) (A1 : Option Addr) (c1 : Nat) (l1 : List ByteArray) (A2 : Option Addr) (c2 : Nat) (l2 : List ByteArray) (r : Bool) (w : World) (hr0 : Kd.C k43 w A0 l0.length l0) (hc0 : l0.length ≤ c0) (hr1 : Kd.C Kd.string w A1 l1.length l1) (hc1 : l1.length ≤ c1) (hr2 : Kd.C Kd.string w A2 l2.length l2) (hc2 : l2.length ≤ c2) (h : malthouselaw09_RungChecks.f k l0 l1 l2 = some r) (hT : UT w) (hR : r = true) :
    Calls Tryd.prog 3 #[.slice A0 l0.length c0, .slice A1 l1.length c1, .slice A2 l2.length c2] w fun e w' => e = .returned (.bool r) ∧ Below w.heap.size w w' := by
  have HT0 := Aside0.mk hT
  clear hT
  have HRT := Aside0.mk hR
  clear hR
  have HR0 := Aside0.mk hr0
  have HC0 := Aside0.mk hc0
  clear hr0 hc0
  have HR1 := Aside0.mk hr1
  have HC1 := Aside0.mk hc1
  clear hr1 hc1
  have HR2 := Aside0.mk hr2
  have HC2 := Aside0.mk hc2
  clear hr2 hc2
  have HB := Aside0.mk (Below.refl w.heap.size w)
  have H : ((malthouselaw09_awake.f k).bind fun t101 => ((malthouseref09_Light.f k l0).bind fun t102 => ((malthouselaw09_names.f k l1).bind fun t103 => ((malthouselaw09_names.f k l2).bind fun t104 => (if t101 = true then (if t102 = true then (if t103 = true then (malthouselaw09_RungChecks.j0 k l0 l1 l2 t101 (!t104)) else (malthouselaw09_RungChecks.j0 k l0 l1 l2 t101 true)) else (malthouselaw09_RungChecks.j0 k l0 l1 l2 t101 true)) else (malthouselaw09_RungChecks.j0 k l0 l1 l2 t101 true)))))) = some r := h
  clear h
  replace H := qi H
  obtain ⟨t101, A4, H⟩ := H
  replace H := qi H
  obtain ⟨t102, A5, H⟩ := H
  replace H := qi H
  obtain ⟨t103, A6, H⟩ := H
  replace H := qi H
  obtain ⟨t104, A7, H⟩ := H
  have HC8 := Aside0.mk H
  clear H
  go_enter Tryd.func3, Tryd.ntmps3
  go_upto_region 5 with (first | ((with_reducible refine gate_callee (f := 19) rfl ?_); refine goesL_ (some 12) rfl rfl Tryd.func19 (by kernel_rfl) rfl #[] rfl qm ?_; (with_reducible refine (malthouselaw09_awake.calls k  t101 _ A4.out (by first | exact HT0.out | exact UT.below HT0.out qb) (malthouselaw09_awake_r A4.out)).mono ?_); rintro e w9 ⟨rfl, hb⟩; refine ⟨_, rfl, ?_⟩; have n0_ := qs hb; clear HB; have HB := n0_; clear n0_; (try clear hb)) | ((with_reducible refine gate_callee (f := 20) rfl ?_); refine goesL_ (some 14) rfl rfl Tryd.func20 (by kernel_rfl) rfl #[.slice A0 l0.length c0] rfl qm ?_; (with_reducible refine (malthouseref09_Light.calls k _ _ l0 t102 _ ?side1 ?side2 A5.out).mono ?_); (case side1 => exact qC HR0.out); (case side2 => exact HC0.out); rintro e w10 ⟨rfl, hb⟩; refine ⟨_, rfl, ?_⟩; have n0_ := qs hb; clear HB; have HB := n0_; clear n0_; (try clear hb)) | ((with_reducible refine gate_callee (f := 21) rfl ?_); refine goesL_ (some 16) rfl rfl Tryd.func21 (by kernel_rfl) rfl #[.slice A1 l1.length c1] rfl qm ?_; (with_reducible refine (malthouselaw09_names.calls k _ _ l1 t103 _ ?side1 ?side2 A6.out).mono ?_); (case side1 => exact qC HR1.out); (case side2 => exact HC1.out); rintro e w' ⟨rfl, ⟨nd, rfl⟩⟩; refine ⟨_, rfl, ?_⟩) | ((with_reducible refine gate_callee (f := 21) rfl ?_); refine goesL_ (some 18) rfl rfl Tryd.func21 (by kernel_rfl) rfl #[.slice A2 l2.length c2] rfl qm ?_; (with_reducible refine (malthouselaw09_names.calls k _ _ l2 t104 _ ?side1 ?side2 A7.out).mono ?_); (case side1 => repeat (first | exact (Kd.C_below HR2.out qb) | (with_reducible refine Kd.C_alloc ?_ _) | (with_reducible refine Kd.C_drewN ?_ _) | (with_reducible refine Kd.C_drew ?_))); (case side2 => exact HC2.out); rintro e w' ⟨rfl, ⟨nd, rfl⟩⟩; refine ⟨_, rfl, ?_⟩))
  (try simp only [Act.put, List.setIfInBounds_toArray, List.set_cons_zero, List.set_cons_succ])
  go_cut [32] (fun v32 wc => ∃ (kq : Nat) (x32_7 : Bool), v32 = .bool x32_7 ∧ Aside0 (malthouselaw09_RungChecks.j0 kq l0 l1 l2 t101 x32_7 = some r) ∧ Aside0 (kq ≤ k) ∧ Aside0 (Below w.heap.size w wc))
  case first =>
    have H := HC8.out
    clear HC8
    by_cases c11 : t101 = true
    · subst c11
      rw [if_pos rfl] at H
      by_cases c12 : t102 = true
      · subst c12
        rw [if_pos rfl] at H
        by_cases c13 : t103 = true
        · subst c13
          rw [if_pos rfl] at H
          have H' := Aside0.mk H
          clear H
          go_wp2
          go_meet
          case rel => exact ⟨_, (!t104), qv, H', ql, qB⟩
        replace c13 := Bool.eq_false_iff.mpr c13
        subst c13
        rw [if_neg qf] at H
        have H' := Aside0.mk H
        clear H
        go_wp2
        go_meet
        case rel => exact ⟨_, (true), qv, H', ql, qB⟩
      replace c12 := Bool.eq_false_iff.mpr c12
      subst c12
      rw [if_neg qf] at H
      have H' := Aside0.mk H
      clear H
      go_wp2
      go_meet
      case rel => exact ⟨_, (true), qv, H', ql, qB⟩
    replace c11 := Bool.eq_false_iff.mpr c11
    subst c11
    rw [if_neg qf] at H
    have H' := Aside0.mk H
    clear H
    go_wp2
    go_meet
    case rel => exact ⟨_, (true), qv, H', ql, qB⟩
  clear HC8
  obtain ⟨kq, x32_7, rfl, HA, HJ7, HB⟩ := hcut
  cases kq with
  | zero => exact absurd HA.out (by simp [malthouselaw09_RungChecks.j0])
  | succ kj7 =>
    have H := HA.out
    clear HA
    simp only [malthouselaw09_RungChecks.j0] at H
    by_cases c14 : x32_7 = true
    · subst c14
      rw [if_pos rfl] at H
      obtain rfl := Option.some.inj H
      go_wp2
      go_ret
      exact qr
    replace c14 := Bool.eq_false_iff.mpr c14
    subst c14
    rw [if_neg qf] at H
    replace H := qi H
    obtain ⟨t105, A15, H⟩ := H
    replace H := qi H
    obtain ⟨t108, A16, H⟩ := H
    replace H := qi H
    obtain ⟨t111, A17, H⟩ := H
    by_cases c18 : t111 = true
    · subst c18
      rw [if_pos rfl] at H
      replace H := qi H
      obtain ⟨t112, A19, H⟩ := H
      replace H := qi H
      obtain ⟨t113, A20, H⟩ := H
      obtain rfl := Option.some.inj H
      go_wp2_with (first | ((with_reducible refine gate_callee (f := 23) rfl ?_); refine goesL_ (some 35) rfl rfl Tryd.func23 (by kernel_rfl) rfl #[.slice A0 l0.length c0] rfl qm ?_; (with_reducible refine (rung_Bits.calls kj7 _ _ l0 t105 _ ?side1 ?side2 A15.out).mono ?_); (case side1 => exact qC HR0.out); (case side2 => exact HC0.out); rintro e w21 ⟨v106, rfl, ho0, hb⟩; refine ⟨_, rfl, ?_⟩; have n0_ := Aside0.mk (Kd.R_lower ho0 (below_size qb)); have n1_ := qs hb; clear HB; have HO107 := n0_; have HB := n1_; clear n0_ n1_; (try clear hb); (try clear ho0)) | ((with_reducible refine gate_callee (f := 24) rfl ?_); refine goesL_ (some 37) rfl rfl Tryd.func24 (by kernel_rfl) rfl #[.slice A0 l0.length c0] rfl qm ?_; (with_reducible refine (malthouseref09_Bits.calls kj7 _ _ l0 t108 _ ?side1 ?side2 A16.out).mono ?_); (case side1 => exact qC HR0.out); (case side2 => exact HC0.out); rintro e w22 ⟨v109, rfl, ho0, hb⟩; refine ⟨_, rfl, ?_⟩; have n0_ := Aside0.mk (Kd.R_elder' (by (with_reducible repeat (first | apply Kd.R_alloc | apply Kd.R_drewN | apply Kd.R_drew)); exact HO107.out) (Kd.R_base ho0) hb); have n1_ := Aside0.mk (Kd.R_lower (Kd.R_new' ho0 (Kd.R_lt (by (with_reducible repeat (first | apply Kd.R_alloc | apply Kd.R_drewN | apply Kd.R_drew)); exact HO107.out))) (below_size qb)); have n2_ := qs hb; clear HO107; clear HB; have HO107 := n0_; have HO110 := n1_; have HB := n2_; clear n0_ n1_ n2_; (try clear hb); (try clear ho0); obtain ⟨Ao23, co23, eo23⟩ := Kd.R_slice HO107.out; subst eo23; obtain ⟨Ao24, co24, eo24⟩ := Kd.R_slice HO110.out; subst eo24) | ((with_reducible refine gate_callee (f := 22) rfl ?_); refine goesL_ (some 38) rfl rfl Tryd.func22 (by kernel_rfl) rfl #[.slice Ao23 t105.length co23, .slice Ao24 t108.length co24] rfl qm ?_; (with_reducible refine (malthouseref09_Texts.calls kj7 _ _ t105 _ _ t108 true _ ?side1 ?side2 ?side3 ?side4 A17.out).mono ?_); (case side1 => repeat (first | exact (Kd.R_reads' HO107.out).2.2 | (with_reducible refine Kd.C_alloc ?_ _) | (with_reducible refine Kd.C_drewN ?_ _) | (with_reducible refine Kd.C_drew ?_))); (case side2 => exact (Kd.R_reads' HO107.out).2.1); (case side3 => repeat (first | exact (Kd.R_reads' HO110.out).2.2 | (with_reducible refine Kd.C_alloc ?_ _) | (with_reducible refine Kd.C_drewN ?_ _) | (with_reducible refine Kd.C_drew ?_))); (case side4 => exact (Kd.R_reads' HO110.out).2.1); rintro e w' ⟨rfl, ⟨nd, rfl⟩⟩; refine ⟨_, rfl, ?_⟩) | (go_at_call 25; (with_reducible refine (rung_Check.calls kj7 _ _ l0 _ _ l1 _ _ l2 t112 _ ?side1 ?side2 ?side3 ?side4 ?side5 ?side6 A19.out (by first | exact HT0.out | exact UT.below HT0.out qb)).mono ?_); (case side1 => repeat (first | exact (Kd.C_below HR0.out qb) | (with_reducible refine Kd.C_alloc ?_ _) | (with_reducible refine Kd.C_drewN ?_ _) | (with_reducible refine Kd.C_drew ?_))); (case side2 => exact HC0.out); (case side3 => repeat (first | exact (Kd.C_below HR1.out qb) | (with_reducible refine Kd.C_alloc ?_ _) | (with_reducible refine Kd.C_drewN ?_ _) | (with_reducible refine Kd.C_drew ?_))); (case side4 => exact HC1.out); (case side5 => repeat (first | exact (Kd.C_below HR2.out qb) | (with_reducible refine Kd.C_alloc ?_ _) | (with_reducible refine Kd.C_drewN ?_ _) | (with_reducible refine Kd.C_drew ?_))); (case side6 => exact HC2.out); rintro e w25 ⟨rfl, hb⟩; have n0_ := Aside0.mk (Kd.R_below (by (with_reducible repeat (first | apply Kd.R_alloc | apply Kd.R_drewN | apply Kd.R_drew)); exact HO107.out) hb); have n1_ := Aside0.mk (Kd.R_below (by (with_reducible repeat (first | apply Kd.R_alloc | apply Kd.R_drewN | apply Kd.R_drew)); exact HO110.out) hb); have n2_ := qs hb; clear HO107; clear HO110; clear HB; have HO107 := n0_; have HO110 := n1_; have HB := n2_; clear n0_ n1_ n2_; (try clear hb)) | (go_at_call 26; (with_reducible refine (malthouseref09_Check.calls kj7 _ _ l0 _ _ l1 _ _ l2 t113 _ ?side1 ?side2 ?side3 ?side4 ?side5 ?side6 A20.out).mono ?_); (case side1 => exact qC HR0.out); (case side2 => exact HC0.out); (case side3 => exact qC HR1.out); (case side4 => exact HC1.out); (case side5 => exact qC HR2.out); (case side6 => exact HC2.out); rintro e w26 ⟨rfl, hb⟩; have n0_ := Aside0.mk (Kd.R_below (by (with_reducible repeat (first | apply Kd.R_alloc | apply Kd.R_drewN | apply Kd.R_drew)); exact HO107.out) hb); have n1_ := Aside0.mk (Kd.R_below (by (with_reducible repeat (first | apply Kd.R_alloc | apply Kd.R_drewN | apply Kd.R_drew)); exact HO110.out) hb); have n2_ := qs hb; clear HO107; clear HO110; clear HB; have HO107 := n0_; have HO110 := n1_; have HB := n2_; clear n0_ n1_ n2_; (try clear hb)))
      go_ret
      exact qr
    replace c18 := Bool.eq_false_iff.mpr c18
    subst c18
    rw [if_neg qf] at H
    exact absurd ((Option.some.inj H).trans HRT.out) (by decide)
end Go.Proofs.YtiaccdaeomaogaaDoor.F
