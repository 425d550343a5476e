/- Texts of one claim, slimmed and merged by slim.py. -/
import Derived.Test.YtiaccdaeomaogaaDoorU4
import Derived.Test.YtiaccdaeomaogaaDoorU7
import Derived.Test.YtiaccdaeomaogaaDoorU17
import Derived.Test.YtiaccdaeomaogaaDoorU19
import Derived.Test.YtiaccdaeomaogaaDoorU20
import Derived.Test.YtiaccdaeomaogaaDoorU32
import Derived.Test.YtiaccdaeomaogaaDoorU34
namespace Go.Proofs.YtiaccdaeomaogaaDoor.F
open Go.RowKit Go.Proofs.YtiaccdaeomaogaaDoorW.PrintWords Go.Proofs.YtiaccdaeomaogaaDoorW.PrintLast Go.Proofs.YtiaccdaeomaogaaDoorW.PrintMore
attribute [local go_sem] max2_int min2_int max_two min_two max_three min_three max_four min_four   -- for this text's walks alone
set_option linter.unusedVariables false
set_option linter.unusedSimpArgs false
def malthouselaw11_ProgChecks.j0 : Nat → List (S67) → Bool → Bool → List ByteArray → List ByteArray → List ByteArray → Option (Bool)
  | 0, _, _, _, _, _, _ => none
  | k + 1, x0, x5, x39, x102000, x102001, x102002 => if x39 = true then (some x5) else ((prog_Check.f k x0 x102000 x102001 x102002).bind fun t107 => ((malthouseref11_Check.f k x0 x102000 x102001 x102002).bind fun t108 => (if t107 = t108 then ((prog_Ends.f k x0).bind fun t109 => ((malthouseref11_Ends.f k x0).bind fun t110 => (some (t109 == t110)))) else (some false))))
def malthouselaw11_ProgChecks.f (k : Nat) (l0 : List (S67)) (l1_0 : List ByteArray) (l1_1 : List ByteArray) (l1_2 : List ByteArray) : Option (Bool) := (malthouselaw11_awake.f k).bind fun t102 => ((malthouseref11_Light.f k l0).bind fun t103 => ((malthouselaw11_names.f k l1_0).bind fun t104 => ((malthouselaw11_names.f k l1_1).bind fun t105 => ((malthouselaw11_names.f k l1_2).bind fun t106 => (if t102 = true then (if t103 = true then (if t104 = true then (if t105 = true then (malthouselaw11_ProgChecks.j0 k l0 t102 (!t106) l1_0 l1_1 l1_2) else (malthouselaw11_ProgChecks.j0 k l0 t102 true l1_0 l1_1 l1_2)) else (malthouselaw11_ProgChecks.j0 k l0 t102 true l1_0 l1_1 l1_2)) else (malthouselaw11_ProgChecks.j0 k l0 t102 true l1_0 l1_1 l1_2)) else (malthouselaw11_ProgChecks.j0 k l0 t102 true l1_0 l1_1 l1_2))))))
def malthouselaw11_ProgChecks.T8 : Bool × List (List Nat × List Nat) := (true, [([], []), ([], []), ([1], [1]), ([], []), ([3], [3]), ([], []), ([5], [5]), ([0, 2, 4, 6], [0, 2, 4, 6]), ([], []), ([], []), ([9], [9]), ([], []), ([11], [11]), ([], []), ([13], [13]), ([8, 10, 12, 14, 7], [8, 10, 12, 14]), ([7, 15], [7, 15]), ([16, 15], [16]), ([17], [17]), ([18, 17, 17], [17, 18]), ([17], [17]), ([20, 19, 17], [17, 20]), ([19, 21, 17], [17, 19, 21]), ([17, 22], [17, 22]), ([23, 21, 0, 1, 2, 3, 4, 5, 6, 7, 8, 9, 10, 11, 12, 13, 14, 15, 16, 17, 18, 19, 20, 21, 22, 23], [23])])
def malthouselaw11_ProgChecks.B8 : List Nat := [0, 0, 2, 0, 8, 0, 32, 127, 0, 0, 512, 0, 2048, 0, 8192, 32767, 65535, 131071, 262143, 524287, 262143, 2097151, 4194303, 8388607, 16777215]
theorem malthouselaw11_ProgChecks.tab8 : rtab .any (opsOf Tryd.f13 8) = malthouselaw11_ProgChecks.T8 := by kernel_rfl
theorem malthouselaw11_ProgChecks.bits8 : waitsOk malthouselaw11_ProgChecks.T8.2 malthouselaw11_ProgChecks.B8 = true := by kernel_rfl
set_option maxHeartbeats 8000000 in
set_option maxRecDepth 100000 in
theorem malthouselaw11_ProgChecks.calls (k : Nat) (A0 : Option Addr) (c0 : Nat) (l0 : List (S67)) (A1_0 : Option Addr) (c1_0 : Nat) (l1_0 : List ByteArray) (A1_1 : Option Addr) (c1_1 : Nat) (l1_1 : List ByteArray) (A1_2 : Option Addr) (c1_2 : Nat) (l1_2 : List ByteArray) (r : Bool) (w : World) (hr0 : Kd.C k67 w A0 l0.length l0) (hc0 : l0.length ≤ c0) (hr1_0 : Kd.C Kd.string w A1_0 l1_0.length l1_0) (hc1_0 : l1_0.length ≤ c1_0) (hr1_1 : Kd.C Kd.string w A1_1 l1_1.length l1_1) (hc1_1 : l1_1.length ≤ c1_1) (hr1_2 : Kd.C Kd.string w A1_2 l1_2.length l1_2) (hc1_2 : l1_2.length ≤ c1_2) (h : malthouselaw11_ProgChecks.f k l0 l1_0 l1_1 l1_2 = some r) (hT : UT w) (hR : r = true) :
    Calls Tryd.prog 13 #[.slice A0 l0.length c0, .agg #[.slice A1_0 l1_0.length c1_0, .slice A1_1 l1_1.length c1_1, .slice A1_2 l1_2.length c1_2]] w fun e w' => e = .returned (.bool r) ∧ Below w.heap.size w w' := by
  have HT0 := Aside0.mk hT
  clear hT
  have HRT := Aside0.mk hR
  clear hR
  have hu75 := Tryd.underlying75
  have HR0 := Aside0.mk hr0
  have HC0 := Aside0.mk hc0
  clear hr0 hc0
  have HR1_0 := Aside0.mk hr1_0
  have HC1_0 := Aside0.mk hc1_0
  clear hr1_0 hc1_0
  have HR1_1 := Aside0.mk hr1_1
  have HC1_1 := Aside0.mk hc1_1
  clear hr1_1 hc1_1
  have HR1_2 := Aside0.mk hr1_2
  have HC1_2 := Aside0.mk hc1_2
  clear hr1_2 hc1_2
  have HB := Aside0.mk (Below.refl w.heap.size w)
  have H : ((malthouselaw11_awake.f k).bind fun t102 => ((malthouseref11_Light.f k l0).bind fun t103 => ((malthouselaw11_names.f k l1_0).bind fun t104 => ((malthouselaw11_names.f k l1_1).bind fun t105 => ((malthouselaw11_names.f k l1_2).bind fun t106 => (if t102 = true then (if t103 = true then (if t104 = true then (if t105 = true then (malthouselaw11_ProgChecks.j0 k l0 t102 (!t106) l1_0 l1_1 l1_2) else (malthouselaw11_ProgChecks.j0 k l0 t102 true l1_0 l1_1 l1_2)) else (malthouselaw11_ProgChecks.j0 k l0 t102 true l1_0 l1_1 l1_2)) else (malthouselaw11_ProgChecks.j0 k l0 t102 true l1_0 l1_1 l1_2)) else (malthouselaw11_ProgChecks.j0 k l0 t102 true l1_0 l1_1 l1_2))))))) = some r := h
  clear h
  replace H := qi H
  obtain ⟨t102, A3, H⟩ := H
  replace H := qi H
  obtain ⟨t103, A4, H⟩ := H
  replace H := qi H
  obtain ⟨t104, A5, H⟩ := H
  replace H := qi H
  obtain ⟨t105, A6, H⟩ := H
  replace H := qi H
  obtain ⟨t106, A7, H⟩ := H
  have HC8 := Aside0.mk H
  clear H
  go_enter Tryd.func13, Tryd.ntmps13
  go_upto_region 6 with (first | ((with_reducible refine gate_dst (N := 3) rfl ?_); refine box_event ?hg (N := 3) ?hd (cs := #[.slice A1_0 l1_0.length c1_0, .slice A1_1 l1_1.length c1_1, .slice A1_2 l1_2.length c1_2]) (t := 75) ?hr ?_; (case hd => rfl); (case hg => rfl); (case hr => first | (go_simp; done) | (go_simp; rfl)); intro gb101 hg w9 hbox hb; have n0_ := qs hb; have n1_ := Aside0.mk (hbox); have n2_ := Aside0.mk ((by rw [hg]; exact (below_size qb) : w.heap.size ≤ gb101)); have n3_ := Aside0.mk ((by rw [hg]; exact (below_size qb) : w.heap.size ≤ gb101)); clear HB; have HB := n0_; have BK101 := n1_; have GW101 := n2_; have GE101 := n3_; clear n0_ n1_ n2_ n3_; clear hb hbox hg) | ((with_reducible refine gate_callee (f := 35) rfl ?_); refine goesL_ (some 10) rfl rfl Tryd.func35 (by kernel_rfl) rfl #[] rfl qm ?_; (with_reducible refine (malthouselaw11_awake.calls k  t102 _ A3.out (by first | exact HT0.out | exact UT.below HT0.out qb) (malthouselaw11_awake_r A3.out)).mono ?_); rintro e w10 ⟨rfl, hb⟩; refine ⟨_, rfl, ?_⟩; have n0_ := qn101 (g := gb101) hb; have n1_ := qs hb; clear BK101; clear HB; have BK101 := n0_; have HB := n1_; clear n0_ n1_; (try clear hb)) | ((with_reducible refine gate_callee (f := 36) rfl ?_); refine goesL_ (some 12) rfl rfl Tryd.func36 (by kernel_rfl) rfl #[.slice A0 l0.length c0] rfl qm ?_; (with_reducible refine (malthouseref11_Light.calls k _ _ l0 t103 _ ?side1 ?side2 A4.out).mono ?_); (case side1 => exact qC HR0.out); (case side2 => exact HC0.out); rintro e w11 ⟨rfl, hb⟩; refine ⟨_, rfl, ?_⟩; have n0_ := qn101 (g := gb101) hb; have n1_ := qs hb; clear BK101; clear HB; have BK101 := n0_; have HB := n1_; clear n0_ n1_; (try clear hb); obtain ⟨_, _, _, _, _, _⟩ := q3 BK101.out) | ((with_reducible refine gate_callee (f := 43) rfl ?_); refine goesL_ (some 15) rfl rfl Tryd.func43 (by kernel_rfl) rfl #[.slice A1_0 l1_0.length c1_0] rfl qm ?_; (with_reducible refine (malthouselaw11_names.calls k _ _ l1_0 t104 _ ?side1 ?side2 A5.out).mono ?_); (case side1 => exact qC HR1_0.out); (case side2 => exact HC1_0.out); rintro e w' ⟨rfl, ⟨nd, rfl⟩⟩; refine ⟨_, rfl, ?_⟩) | ((with_reducible refine gate_callee (f := 43) rfl ?_); refine goesL_ (some 18) rfl rfl Tryd.func43 (by kernel_rfl) rfl #[.slice A1_1 l1_1.length c1_1] rfl qm ?_; (with_reducible refine (malthouselaw11_names.calls k _ _ l1_1 t105 _ ?side1 ?side2 A6.out).mono ?_); (case side1 => repeat (first | exact (Kd.C_below HR1_1.out qb) | (with_reducible refine Kd.C_alloc ?_ _) | (with_reducible refine Kd.C_drewN ?_ _) | (with_reducible refine Kd.C_drew ?_))); (case side2 => exact HC1_1.out); rintro e w' ⟨rfl, ⟨nd, rfl⟩⟩; refine ⟨_, rfl, ?_⟩) | ((with_reducible refine gate_callee (f := 43) rfl ?_); refine goesL_ (some 21) rfl rfl Tryd.func43 (by kernel_rfl) rfl #[.slice A1_2 l1_2.length c1_2] rfl qm ?_; (with_reducible refine (malthouselaw11_names.calls k _ _ l1_2 t106 _ ?side1 ?side2 A7.out).mono ?_); (case side1 => repeat (first | exact (Kd.C_below HR1_2.out qb) | (with_reducible refine Kd.C_alloc ?_ _) | (with_reducible refine Kd.C_drewN ?_ _) | (with_reducible refine Kd.C_drew ?_))); (case side2 => exact HC1_2.out); rintro e w' ⟨rfl, ⟨nd, rfl⟩⟩; refine ⟨_, rfl, ?_⟩))
  (try simp only [Act.put, List.setIfInBounds_toArray, List.set_cons_zero, List.set_cons_succ])
  go_cut [39] (fun v39 wc => ∃ (kq : Nat) (x39_7 : Bool), v39 = .bool x39_7 ∧ Aside0 (malthouselaw11_ProgChecks.j0 kq l0 t102 x39_7 l1_0 l1_1 l1_2 = some r) ∧ Aside0 (kq ≤ k) ∧ Aside0 (wc.heap[gb101]? = some (.cells #[(.slice A1_0 l1_0.length c1_0), (.slice A1_1 l1_1.length c1_1), (.slice A1_2 l1_2.length c1_2)] 75 (0, 0))) ∧ Aside0 (Below w.heap.size w wc))
  case first =>
    have H := HC8.out
    clear HC8
    by_cases c13 : t102 = true
    · subst c13
      rw [if_pos rfl] at H
      by_cases c14 : t103 = true
      · subst c14
        rw [if_pos rfl] at H
        by_cases c15 : t104 = true
        · subst c15
          rw [if_pos rfl] at H
          by_cases c16 : t105 = true
          · subst c16
            rw [if_pos rfl] at H
            have H' := Aside0.mk H
            clear H
            go_wp2
            go_meet
            case rel => exact ⟨_, (!t106), qv, H', ql, qk101, qB⟩
          replace c16 := Bool.eq_false_iff.mpr c16
          subst c16
          rw [if_neg qf] at H
          have H' := Aside0.mk H
          clear H
          go_wp2
          go_meet
          case rel => exact ⟨_, (true), qv, H', ql, qk101, qB⟩
        replace c15 := Bool.eq_false_iff.mpr c15
        subst c15
        rw [if_neg qf] at H
        have H' := Aside0.mk H
        clear H
        go_wp2
        go_meet
        case rel => exact ⟨_, (true), qv, H', ql, qk101, qB⟩
      replace c14 := Bool.eq_false_iff.mpr c14
      subst c14
      rw [if_neg qf] at H
      have H' := Aside0.mk H
      clear H
      go_wp2
      go_meet
      case rel => exact ⟨_, (true), qv, H', ql, qk101, qB⟩
    replace c13 := Bool.eq_false_iff.mpr c13
    subst c13
    rw [if_neg qf] at H
    have H' := Aside0.mk H
    clear H
    go_wp2
    go_meet
    case rel => exact ⟨_, (true), qv, H', ql, qk101, qB⟩
  clear HC8
  obtain ⟨kq, x39_7, rfl, HA, HJ7, BK101, HB⟩ := hcut
  cases kq with
  | zero => exact absurd HA.out (by simp [malthouselaw11_ProgChecks.j0])
  | succ kj7 =>
    have H := HA.out
    clear HA
    simp only [malthouselaw11_ProgChecks.j0] at H
    by_cases c17 : x39_7 = true
    · subst c17
      rw [if_pos rfl] at H
      obtain rfl := Option.some.inj H
      go_wp2
      go_ret
      exact qr
    replace c17 := Bool.eq_false_iff.mpr c17
    subst c17
    rw [if_neg qf] at H
    replace H := qi H
    obtain ⟨t107, A18, H⟩ := H
    replace H := qi H
    obtain ⟨t108, A19, H⟩ := H
    by_cases c20 : t107 = t108
    · rw [if_pos c20] at H
      obtain ⟨c20b0, c20b1⟩ := qe c20
      clear c20
      replace H := qi H
      obtain ⟨t109, A21, H⟩ := H
      replace H := qi H
      obtain ⟨t110, A22, H⟩ := H
      obtain rfl := Option.some.inj H
      try go_wp2
      replace BK101 := Aside0.mk (blk_drew BK101.out)
      replace HB := Aside0.mk (below_drew1 HB.out)
      refine start_ (n := 25) (S := fun w' => w'.cell? ⟨gb101, 0, none⟩ = some (.slice A1_0 l1_0.length c1_0) ∧ w'.cell? ⟨gb101, 1, none⟩ = some (.slice A1_1 l1_1.length c1_1) ∧ w'.cell? ⟨gb101, 2, none⟩ = some (.slice A1_2 l1_2.length c1_2)) (ds := []) #[false, false, false, false, false, false, false, false, false, false, false, false, false, false, false, false, false, false, false, false, false, false, false, false, false] (by kernel_rfl) rfl rfl ⟨(blk_cell BK101.out 0).trans rfl, (blk_cell BK101.out 1).trans rfl, (blk_cell BK101.out 2).trans rfl⟩ (fun hHeld => ?_); refine with_tabW malthouselaw11_ProgChecks.tab8 malthouselaw11_ProgChecks.bits8 (fun HT_ HW_ => ?_)
      generalize wc.drew = w23 at BK101 HB hHeld ⊢
      refine qpu 0 (some 41) ?_
      refine qpu 1 (some 42) ?_
      refine qpu 3 (some 44) ?_
      refine qpu 5 (some 46) ?_
      refine qpu 8 (some 49) ?_
      refine qpu 9 (some 50) ?_
      refine qpu 11 (some 52) ?_
      refine qpu 13 (some 54) ?_
      refine qtw3 2 (some 43) hHeld ?_
      refine qtw3 4 (some 45) hHeld ?_
      refine qtw3 6 (some 47) hHeld ?_
      refine qtw3 10 (some 51) hHeld ?_
      refine qtw3 12 (some 53) hHeld ?_
      refine qtw3 14 (some 55) hHeld ?_
      refine one_ (i := 7) (N := some 48) #[Y,Y,Y,Y,Y,Y,Y,Y,Y,Y,Y,Y,Y,Y,Y,Z,Z,Z,Z,Z,Z,Z,Z,Z,Z] rfl rfl (one_of HT_.out (by kernel_rfl)) (by decide) (fun K hK => ?_)
      refine goes_ Tryd.func44 (by kernel_rfl) rfl #[.slice A0 l0.length c0, .slice A1_0 l1_0.length c1_0, .slice A1_1 l1_1.length c1_1, .slice A1_2 l1_2.length c1_2] (by rfl) rfl rfl qm ?_
      with_reducible refine (prog_Check.calls kj7 _ _ l0 _ _ l1_0 _ _ l1_1 _ _ l1_2 t107 _ ?side1 ?side2 ?side3 ?side4 ?side5 ?side6 ?side7 ?side8 A18.out (by first | exact HT0.out | exact UT.below HT0.out qb)).mono ?_
      (case side1 => exact qC HR0.out)
      (case side2 => exact HC0.out)
      (case side3 => exact qC HR1_0.out)
      (case side4 => exact HC1_0.out)
      (case side5 => exact qC HR1_1.out)
      (case side6 => exact HC1_1.out)
      (case side7 => exact qC HR1_2.out)
      (case side8 => exact HC1_2.out)
      rintro e w24 ⟨rfl, hb⟩
      refine ⟨_, rfl, ?_⟩
      have n0_ := qn101 (g := gb101) hb
      have n1_ := qs hb
      clear BK101
      clear HB
      have BK101 := n0_
      have HB := n1_
      clear n0_ n1_
      refine hK.out _ _ ⟨(blk_cell BK101.out 0).trans rfl, (blk_cell BK101.out 1).trans rfl, (blk_cell BK101.out 2).trans rfl⟩ (fun hHeld => ?_)
      clear hK K
      refine norm_ (a' := ?_) ?_ ?_
      rotate_left
      · show Act.put _ (some 48) _ = _
        simp only [Act.put, List.setIfInBounds_toArray, List.set_cons_zero, List.set_cons_succ, i64_w, i32_w]
        rfl
      refine one_ (i := 15) (N := some 56) #[Y,Y,Y,Y,Y,Y,Y,Y,Y,Y,Y,Y,Y,Y,Y,Y,Z,Z,Z,Z,Z,Z,Z,Z,Z] rfl rfl (one_of HT_.out (by kernel_rfl)) (by decide) (fun K hK => ?_)
      refine goes_ Tryd.func45 (by kernel_rfl) rfl #[.slice A0 l0.length c0, .slice A1_0 l1_0.length c1_0, .slice A1_1 l1_1.length c1_1, .slice A1_2 l1_2.length c1_2] (by rfl) rfl rfl qm ?_
      with_reducible refine (malthouseref11_Check.calls kj7 _ _ l0 _ _ l1_0 _ _ l1_1 _ _ l1_2 t108 _ ?side1 ?side2 ?side3 ?side4 ?side5 ?side6 ?side7 ?side8 A19.out).mono ?_
      (case side1 => exact qC HR0.out)
      (case side2 => exact HC0.out)
      (case side3 => exact qC HR1_0.out)
      (case side4 => exact HC1_0.out)
      (case side5 => exact qC HR1_1.out)
      (case side6 => exact HC1_1.out)
      (case side7 => exact qC HR1_2.out)
      (case side8 => exact HC1_2.out)
      rintro e w25 ⟨rfl, hb⟩
      refine ⟨_, rfl, ?_⟩
      have n0_ := qn101 (g := gb101) hb
      have n1_ := qs hb
      clear BK101
      clear HB
      have BK101 := n0_
      have HB := n1_
      clear n0_ n1_
      refine hK.out _ _ ⟨(blk_cell BK101.out 0).trans rfl, (blk_cell BK101.out 1).trans rfl, (blk_cell BK101.out 2).trans rfl⟩ (fun hHeld => ?_)
      clear hK K
      refine norm_ (a' := ?_) ?_ ?_
      rotate_left
      · show Act.put _ (some 56) _ = _
        simp only [Act.put, List.setIfInBounds_toArray, List.set_cons_zero, List.set_cons_succ, i64_w, i32_w]
        rfl
      refine qpu 16 (some 57) ?_
      refine qpu 17 (some 58) ?_
      refine qpu 18 (some 59) ?_
      refine qpu 20 (some 61) ?_
      refine one_ (i := 19) (N := some 60) #[Y,Y,Y,Y,Y,Y,Y,Y,Y,Y,Y,Y,Y,Y,Y,Y,Y,Y,Y,Y,Y,Z,Z,Z,Z] rfl rfl (one_of HT_.out (by kernel_rfl)) (by decide) (fun K hK => ?_)
      refine goes_ Tryd.func46 (by kernel_rfl) rfl #[.slice A0 l0.length c0] (by rfl) rfl rfl qm ?_
      with_reducible refine (prog_Ends.calls kj7 _ _ l0 t109 _ ?side1 ?side2 A21.out).mono ?_
      (case side1 => exact qC HR0.out)
      (case side2 => exact HC0.out)
      rintro e w26 ⟨rfl, hb⟩
      refine ⟨_, rfl, ?_⟩
      have n0_ := qn101 (g := gb101) hb
      have n1_ := qs hb
      clear BK101
      clear HB
      have BK101 := n0_
      have HB := n1_
      clear n0_ n1_
      refine hK.out _ _ ⟨(blk_cell BK101.out 0).trans rfl, (blk_cell BK101.out 1).trans rfl, (blk_cell BK101.out 2).trans rfl⟩ (fun hHeld => ?_)
      clear hK K
      refine norm_ (a' := ?_) ?_ ?_
      rotate_left
      · show Act.put _ (some 60) _ = _
        simp only [Act.put, List.setIfInBounds_toArray, List.set_cons_zero, List.set_cons_succ, i64_w, i32_w]
        rfl
      refine one_ (i := 21) (N := some 62) #[Y,Y,Y,Y,Y,Y,Y,Y,Y,Y,Y,Y,Y,Y,Y,Y,Y,Y,Y,Y,Y,Y,Z,Z,Z] rfl rfl (one_of HT_.out (by kernel_rfl)) (by decide) (fun K hK => ?_)
      refine goes_ Tryd.func47 (by kernel_rfl) rfl #[.slice A0 l0.length c0] (by rfl) rfl rfl qm ?_
      with_reducible refine (malthouseref11_Ends.calls kj7 _ _ l0 t110 _ ?side1 ?side2 A22.out).mono ?_
      (case side1 => exact qC HR0.out)
      (case side2 => exact HC0.out)
      rintro e w' ⟨rfl, ⟨nd, rfl⟩⟩
      refine ⟨_, rfl, ?_⟩
      refine hK.out _ _ ⟨(blk_cell BK101.out 0).trans rfl, (blk_cell BK101.out 1).trans rfl, (blk_cell BK101.out 2).trans rfl⟩ (fun hHeld => ?_)
      clear hK K
      refine norm_ (a' := ?_) ?_ ?_
      rotate_left
      · show Act.put _ (some 62) _ = _
        simp only [Act.put, List.setIfInBounds_toArray, List.set_cons_zero, List.set_cons_succ, i64_w, i32_w]
        rfl
      refine qpu 22 (some 63) ?_
      refine qpu 23 (some 64) ?_
      refine qpu 24 (some 4) ?_
      refine done_ (done_of HT_.out (by kernel_rfl)) ?_
      try go_wp2
      go_ret
      exact qr
    rw [if_neg c20] at H
    obtain ⟨c20b0, c20b1⟩ := qd c20
    exact absurd ((Option.some.inj H).trans HRT.out) (by decide)
end Go.Proofs.YtiaccdaeomaogaaDoor.F
