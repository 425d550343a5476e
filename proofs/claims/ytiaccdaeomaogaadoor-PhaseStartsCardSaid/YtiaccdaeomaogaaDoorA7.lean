/- Texts of one claim, slimmed and merged by slim.py. -/
import Derived.Test.YtiaccdaeomaogaaDoorA4
import Derived.Test.YtiaccdaeomaogaaDoorA6
namespace Go.Proofs.YtiaccdaeomaogaaDoor.F
open Go.RowKit Go.Proofs.YtiaccdaeomaogaaDoorW.PrintWords Go.Proofs.YtiaccdaeomaogaaDoorW.PrintLast Go.Proofs.YtiaccdaeomaogaaDoorW.PrintMore
attribute [local go_sem] max2_int min2_int max_two min_two max_three min_three max_four min_four   -- for this text's walks alone
set_option linter.unusedVariables false
set_option linter.unusedSimpArgs false
def lex_Name.f (a0 : ByteArray) : Option (Bool) := (utf8_ValidString.f a0).bind fun t101 => (if t101 = true then ((lex_wordy.f a0).bind fun t102 => (if t102 = true then (if 0 < (a0.size : Int) then (if (bt a0 0) < 48 then ((utf8_RuneCountInString.f a0).bind fun t103 => (some (decide (t103 ≤ 12)))) else (if (bt a0 0) > 57 then ((utf8_RuneCountInString.f a0).bind fun t104 => (some (decide (t104 ≤ 12)))) else (some false))) else (none)) else (some false))) else (some false))
set_option maxHeartbeats 8000000 in
set_option maxRecDepth 100000 in
theorem lex_Name.calls (a0 : ByteArray) (r : Bool) (w : World) (h : lex_Name.f a0 = some r) (hT : UT w) :
  Calls Tryd.prog 91 #[.string a0] w fun e w' => e = .returned (.bool r) ∧ Below w.heap.size w w' := by
 have HT0 := Aside0.mk hT
 clear hT
 have HB := Aside0.mk (Below.refl w.heap.size w)
 have H : ((utf8_ValidString.f a0).bind fun t101 => (if t101 = true then ((lex_wordy.f a0).bind fun t102 => (if t102 = true then (if 0 < (a0.size : Int) then (if (bt a0 0) < 48 then ((utf8_RuneCountInString.f a0).bind fun t103 => (some (decide (t103 ≤ 12)))) else (if (bt a0 0) > 57 then ((utf8_RuneCountInString.f a0).bind fun t104 => (some (decide (t104 ≤ 12)))) else (some false))) else (none)) else (some false))) else (some false))) = some r := h
 clear h
 replace H := qi H
 obtain ⟨t101, A2, H⟩ := H
 by_cases c3 : t101 = true
 ·subst c3
  rw [if_pos rfl] at H
  replace H := qi H
  obtain ⟨t102, A4, H⟩ := H
  by_cases c5 : t102 = true
  ·subst c5
   rw [if_pos rfl] at H
   by_cases c6 : 0 < (a0.size : Int)
   ·rw [if_pos c6] at H
    have c6b0 : decide (0 < (a0.size : Int)) = true := decide_eq_true c6
    have c6b1 : decide (0 < a0.size) = true := decide_eq_true (by omega)
    clear c6
    by_cases c8 : (bt a0 0) < 48
    ·rw [if_pos c8] at H
     have c8b0 : decide ((bt a0 0) < 48) = true := decide_eq_true c8
     clear c8
     replace H := qi H
     obtain ⟨t103, A9, H⟩ := H
     obtain rfl := Option.some.inj H
     go_enter Tryd.func91, Tryd.ntmps91
     go_wp2_with (first | ((with_reducible refine gate_callee (f := 118) rfl ?_); refine goesL_ (some 4) rfl rfl Tryd.func118 (by kernel_rfl) rfl #[.string a0] rfl qm ?_; (with_reducible refine (utf8_ValidString.calls a0 true _ A2.out (by first | exact HT0.out | exact UT.below HT0.out qb)).mono ?_); rintro e w10 ⟨rfl, hb⟩; refine ⟨_, rfl, ?_⟩; have n0_ := qs hb; clear HB; have HB := n0_; clear n0_; (try clear hb)) | (go_at_call 119; (with_reducible refine (lex_wordy.calls a0 true _ A4.out).mono ?_); rintro e w11 ⟨rfl, hb⟩; have n0_ := qs hb; clear HB; have HB := n0_; clear n0_; (try clear hb); have p7 : 0 ≤ (0 : Int) := (by omega); have q7 : 0 < a0.size := (by have : (0 : Int) < (a0.size : Int) := qa; omega); have hx7 : ∀ h : 0 < a0.size, ((a0[0]'h).toNat : Int) = bt a0 0 := bt_at a0 0; clear p7; have qi7 : (0 < (a0.size : Int)) = True := eq_true (qa); replace q7 := eq_true q7) | (go_at_call 120; (with_reducible refine (utf8_RuneCountInString.calls a0 t103 _ A9.out).mono ?_); rintro e w12 ⟨rfl, hb⟩; have n0_ := qs hb; clear HB; have HB := n0_; clear n0_; (try clear hb)))
     go_ret
     exact qr
    rw [if_neg c8] at H
    have c8b0 : decide ((bt a0 0) < 48) = false := decide_eq_false c8
    clear c8
    by_cases c14 : (bt a0 0) > 57
    ·rw [if_pos c14] at H
     have c14b0 : decide (57 < (bt a0 0)) = true := decide_eq_true c14
     clear c14
     replace H := qi H
     obtain ⟨t104, A15, H⟩ := H
     obtain rfl := Option.some.inj H
     go_enter Tryd.func91, Tryd.ntmps91
     go_wp2_with (first | ((with_reducible refine gate_callee (f := 118) rfl ?_); refine goesL_ (some 4) rfl rfl Tryd.func118 (by kernel_rfl) rfl #[.string a0] rfl qm ?_; (with_reducible refine (utf8_ValidString.calls a0 true _ A2.out (by first | exact HT0.out | exact UT.below HT0.out qb)).mono ?_); rintro e w16 ⟨rfl, hb⟩; refine ⟨_, rfl, ?_⟩; have n0_ := qs hb; clear HB; have HB := n0_; clear n0_; (try clear hb)) | (go_at_call 119; (with_reducible refine (lex_wordy.calls a0 true _ A4.out).mono ?_); rintro e w17 ⟨rfl, hb⟩; have n0_ := qs hb; clear HB; have HB := n0_; clear n0_; (try clear hb); have p7 : 0 ≤ (0 : Int) := (by omega); have q7 : 0 < a0.size := (by have : (0 : Int) < (a0.size : Int) := qa; omega); have hx7 : ∀ h : 0 < a0.size, ((a0[0]'h).toNat : Int) = bt a0 0 := bt_at a0 0; clear p7; have qi7 : (0 < (a0.size : Int)) = True := eq_true (qa); replace q7 := eq_true q7; have p13 : 0 ≤ (0 : Int) := (by omega); have q13 : 0 < a0.size := (by have : (0 : Int) < (a0.size : Int) := qa; omega); have hx13 : ∀ h : 0 < a0.size, ((a0[0]'h).toNat : Int) = bt a0 0 := bt_at a0 0; clear p13; have qi13 : (0 < (a0.size : Int)) = True := eq_true (qa); replace q13 := eq_true q13) | (go_at_call 120; (with_reducible refine (utf8_RuneCountInString.calls a0 t104 _ A15.out).mono ?_); rintro e w18 ⟨rfl, hb⟩; have n0_ := qs hb; clear HB; have HB := n0_; clear n0_; (try clear hb)))
     go_ret
     exact qr
    rw [if_neg c14] at H
    have c14b0 : decide (57 < (bt a0 0)) = false := decide_eq_false c14
    clear c14
    obtain rfl := Option.some.inj H
    go_enter Tryd.func91, Tryd.ntmps91
    go_wp2_with (first | ((with_reducible refine gate_callee (f := 118) rfl ?_); refine goesL_ (some 4) rfl rfl Tryd.func118 (by kernel_rfl) rfl #[.string a0] rfl qm ?_; (with_reducible refine (utf8_ValidString.calls a0 true _ A2.out (by first | exact HT0.out | exact UT.below HT0.out qb)).mono ?_); rintro e w19 ⟨rfl, hb⟩; refine ⟨_, rfl, ?_⟩; have n0_ := qs hb; clear HB; have HB := n0_; clear n0_; (try clear hb)) | (go_at_call 119; (with_reducible refine (lex_wordy.calls a0 true _ A4.out).mono ?_); rintro e w20 ⟨rfl, hb⟩; have n0_ := qs hb; clear HB; have HB := n0_; clear n0_; (try clear hb); have p7 : 0 ≤ (0 : Int) := (by omega); have q7 : 0 < a0.size := (by have : (0 : Int) < (a0.size : Int) := qa; omega); have hx7 : ∀ h : 0 < a0.size, ((a0[0]'h).toNat : Int) = bt a0 0 := bt_at a0 0; clear p7; have qi7 : (0 < (a0.size : Int)) = True := eq_true (qa); replace q7 := eq_true q7; have p13 : 0 ≤ (0 : Int) := (by omega); have q13 : 0 < a0.size := (by have : (0 : Int) < (a0.size : Int) := qa; omega); have hx13 : ∀ h : 0 < a0.size, ((a0[0]'h).toNat : Int) = bt a0 0 := bt_at a0 0; clear p13; have qi13 : (0 < (a0.size : Int)) = True := eq_true (qa); replace q13 := eq_true q13))
    go_ret
    exact qr
   rw [if_neg c6] at H
   exact absurd H (by simp)
  replace c5 := Bool.eq_false_iff.mpr c5
  subst c5
  rw [if_neg qf] at H
  obtain rfl := Option.some.inj H
  go_enter Tryd.func91, Tryd.ntmps91
  go_wp2_with (first | ((with_reducible refine gate_callee (f := 118) rfl ?_); refine goesL_ (some 4) rfl rfl Tryd.func118 (by kernel_rfl) rfl #[.string a0] rfl qm ?_; (with_reducible refine (utf8_ValidString.calls a0 true _ A2.out (by first | exact HT0.out | exact UT.below HT0.out qb)).mono ?_); rintro e w21 ⟨rfl, hb⟩; refine ⟨_, rfl, ?_⟩; have n0_ := qs hb; clear HB; have HB := n0_; clear n0_; (try clear hb)) | (go_at_call 119; (with_reducible refine (lex_wordy.calls a0 false _ A4.out).mono ?_); rintro e w22 ⟨rfl, hb⟩; have n0_ := qs hb; clear HB; have HB := n0_; clear n0_; (try clear hb)))
  go_ret
  exact qr
 replace c3 := Bool.eq_false_iff.mpr c3
 subst c3
 rw [if_neg qf] at H
 obtain rfl := Option.some.inj H
 go_enter Tryd.func91, Tryd.ntmps91
 go_wp2_with (first | ((with_reducible refine gate_callee (f := 118) rfl ?_); refine goesL_ (some 4) rfl rfl Tryd.func118 (by kernel_rfl) rfl #[.string a0] rfl qm ?_; (with_reducible refine (utf8_ValidString.calls a0 false _ A2.out (by first | exact HT0.out | exact UT.below HT0.out qb)).mono ?_); rintro e w23 ⟨rfl, hb⟩; refine ⟨_, rfl, ?_⟩; have n0_ := qs hb; clear HB; have HB := n0_; clear n0_; (try clear hb)))
 go_ret
 exact qr
end Go.Proofs.YtiaccdaeomaogaaDoor.F
