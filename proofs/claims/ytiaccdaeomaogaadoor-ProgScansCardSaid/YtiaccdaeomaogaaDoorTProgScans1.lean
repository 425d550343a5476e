/- Texts of one claim, slimmed and merged by slim.py. -/
import Derived.Test.YtiaccdaeomaogaaDoorT4
import Derived.Test.YtiaccdaeomaogaaDoorT7
import Derived.Test.YtiaccdaeomaogaaDoorT13
import Derived.Test.YtiaccdaeomaogaaDoorT16
import Derived.Test.YtiaccdaeomaogaaDoorT17
import Derived.Test.YtiaccdaeomaogaaDoorT21
import Derived.Test.YtiaccdaeomaogaaDoorT31
import Derived.Test.YtiaccdaeomaogaaDoorT33
namespace Go.Proofs.YtiaccdaeomaogaaDoor.F
open Go.RowKit Go.Proofs.YtiaccdaeomaogaaDoorW.PrintWords Go.Proofs.YtiaccdaeomaogaaDoorW.PrintLast Go.Proofs.YtiaccdaeomaogaaDoorW.PrintMore
attribute [local go_sem] max2_int min2_int max_two min_two max_three min_three max_four min_four   -- for this text's walks alone
set_option linter.unusedVariables false
set_option linter.unusedSimpArgs false
attribute [local go_sem high] eqA57
def malthouselaw11_ProgScans.j0 : Nat → List (S67) → List (S69) → Bool → Bool → Int → Int → Option (Bool)
  | 0, _, _, _, _, _, _ => none
  | k + 1, x0, x2, x7, x33, x102000, x102001 => if x33 = true then (some x7) else ((prog_Scan.f k x0 x102000 x102001 x2).bind fun bt105 => ((malthouseref11_Scan.f k x0 x102000 x102001 x2).bind fun bt113 => ((malthouseref11_Same.f k bt105.2.2.1 bt113.2.2.1).bind fun t121 => (if t121 = true then (if (bt105.1 == bt113.1 && (bt105.2.1 == bt113.2.1)) = true then (if (bt105.2.2.2.1 == bt113.2.2.2.1) = true then (if bt105.2.2.2.2 = bt113.2.2.2.2 then ((prog_Right.f x0 x102000 x102001).bind fun t122 => ((malthouseref11_Right.f k x0 x102000 x102001).bind fun t123 => (some (t122 == t123)))) else (some false)) else (some false)) else (some false)) else (some false)))))
def malthouselaw11_ProgScans.f (k : Nat) (l0 : List (S67)) (a1_0 : Int) (a1_1 : Int) (l2 : List (S69)) : Option (Bool) := (malthouselaw11_awake.f k).bind fun t102 => ((malthouseref11_Light.f k l0).bind fun t103 => ((malthouselaw11_cells.f k l2).bind fun t104 => (if t102 = true then (if t103 = true then (malthouselaw11_ProgScans.j0 k l0 l2 t102 (!t104) a1_0 a1_1) else (malthouselaw11_ProgScans.j0 k l0 l2 t102 true a1_0 a1_1)) else (malthouselaw11_ProgScans.j0 k l0 l2 t102 true a1_0 a1_1))))
def malthouselaw11_ProgScans.T9 : Bool × List (List Nat × List Nat) := (true, [([], []), ([0], [0]), ([1], [1]), ([1], [1]), ([2, 3, 1], [1, 2, 3]), ([1, 4], [1, 4]), ([5, 1], [5]), ([6], [6]), ([6], [6]), ([7, 8, 6], [6, 7, 8]), ([6, 9], [6, 9]), ([10, 6], [10]), ([11], [11]), ([11], [11]), ([12, 13, 11], [11, 12, 13]), ([11, 14], [11, 14]), ([15, 11], [15]), ([16], [16]), ([16], [16]), ([17, 18, 16, 16], [16, 17, 18]), ([16], [16]), ([16], [16]), ([20, 21, 19, 16], [16, 20, 21]), ([19, 22, 16], [16, 19, 22]), ([16, 23], [16, 23]), ([24, 22, 0, 1, 2, 3, 4, 5, 6, 7, 8, 9, 10, 11, 12, 13, 14, 15, 16, 17, 18, 19, 20, 21, 22, 23, 24], [24])])
def malthouselaw11_ProgScans.B9 : List Nat := [0, 1, 3, 3, 15, 31, 63, 127, 127, 511, 1023, 2047, 4095, 4095, 16383, 32767, 65535, 131071, 131071, 524287, 131071, 131071, 4194303, 8388607, 16777215, 33554431]
theorem malthouselaw11_ProgScans.tab9 : rtab .any (opsOf Tryd.f9 9) = malthouselaw11_ProgScans.T9 := by kernel_rfl
theorem malthouselaw11_ProgScans.bits9 : waitsOk malthouselaw11_ProgScans.T9.2 malthouselaw11_ProgScans.B9 = true := by kernel_rfl
set_option maxHeartbeats 8000000 in
set_option maxRecDepth 100000 in
theorem malthouselaw11_ProgScans.calls (k : Nat) (A0 : Option Addr) (c0 : Nat) (l0 : List (S67)) (a1_0 : Int) (a1_1 : Int) (A2 : Option Addr) (c2 : Nat) (l2 : List (S69)) (r : Bool) (w : World) (hr0 : Kd.C k67 w A0 l0.length l0) (hc0 : l0.length ≤ c0) (hr2 : Kd.C k69 w A2 l2.length l2) (hc2 : l2.length ≤ c2) (h : malthouselaw11_ProgScans.f k l0 a1_0 a1_1 l2 = some r) (hT : UT w) (hR : r = true) :
    Calls Tryd.prog 9 #[.slice A0 l0.length c0, .agg #[.int .i64 a1_0, .int .i64 a1_1], .slice A2 l2.length c2] w fun e w' => e = .returned (.bool r) ∧ Below w.heap.size w w' := by
  have HT0 := Aside0.mk hT
  clear hT
  have HRT := Aside0.mk hR
  clear hR
  have hu57 := Tryd.underlying57
  have HR0 := Aside0.mk hr0
  have HC0 := Aside0.mk hc0
  clear hr0 hc0
  have HR2 := Aside0.mk hr2
  have HC2 := Aside0.mk hc2
  clear hr2 hc2
  have HB := Aside0.mk (Below.refl w.heap.size w)
  have H : ((malthouselaw11_awake.f k).bind fun t102 => ((malthouseref11_Light.f k l0).bind fun t103 => ((malthouselaw11_cells.f k l2).bind fun t104 => (if t102 = true then (if t103 = true then (malthouselaw11_ProgScans.j0 k l0 l2 t102 (!t104) a1_0 a1_1) else (malthouselaw11_ProgScans.j0 k l0 l2 t102 true a1_0 a1_1)) else (malthouselaw11_ProgScans.j0 k l0 l2 t102 true a1_0 a1_1))))) = some r := h
  clear h
  replace H := qi H
  obtain ⟨t102, A4, H⟩ := H
  replace H := qi H
  obtain ⟨t103, A5, H⟩ := H
  replace H := qi H
  obtain ⟨t104, A6, H⟩ := H
  have HC7 := Aside0.mk H
  clear H
  go_enter Tryd.func9, Tryd.ntmps9
  go_upto_region 4 with (first | ((with_reducible refine gate_dst (N := 4) rfl ?_); refine box_event ?hg (N := 4) ?hd (cs := #[.int .i64 a1_0, .int .i64 a1_1]) (t := 57) ?hr ?_; (case hd => rfl); (case hg => rfl); (case hr => first | (go_simp; done) | (go_simp; rfl)); intro gb101 hg w8 hbox hb; have n0_ := qs hb; have n1_ := Aside0.mk (hbox); have n2_ := Aside0.mk ((by rw [hg]; exact (below_size qb) : w.heap.size ≤ gb101)); have n3_ := Aside0.mk ((by rw [hg]; exact (below_size qb) : w.heap.size ≤ gb101)); clear HB; have HB := n0_; have BK101 := n1_; have GW101 := n2_; have GE101 := n3_; clear n0_ n1_ n2_ n3_; clear hb hbox hg) | ((with_reducible refine gate_callee (f := 35) rfl ?_); refine goesL_ (some 19) rfl rfl Tryd.func35 (by kernel_rfl) rfl #[] rfl qm ?_; (with_reducible refine (malthouselaw11_awake.calls k  t102 _ A4.out (by first | exact HT0.out | exact UT.below HT0.out qb) (malthouselaw11_awake_r A4.out)).mono ?_); rintro e w9 ⟨rfl, hb⟩; refine ⟨_, rfl, ?_⟩; have n0_ := qn101 (g := gb101) hb; have n1_ := qs hb; clear BK101; clear HB; have BK101 := n0_; have HB := n1_; clear n0_ n1_; (try clear hb)) | ((with_reducible refine gate_callee (f := 36) rfl ?_); refine goesL_ (some 21) rfl rfl Tryd.func36 (by kernel_rfl) rfl #[.slice A0 l0.length c0] rfl qm ?_; (with_reducible refine (malthouseref11_Light.calls k _ _ l0 t103 _ ?side1 ?side2 A5.out).mono ?_); (case side1 => exact qC HR0.out); (case side2 => exact HC0.out); rintro e w10 ⟨rfl, hb⟩; refine ⟨_, rfl, ?_⟩; have n0_ := qn101 (g := gb101) hb; have n1_ := qs hb; clear BK101; clear HB; have BK101 := n0_; have HB := n1_; clear n0_ n1_; (try clear hb)) | ((with_reducible refine gate_callee (f := 37) rfl ?_); refine goesL_ (some 23) rfl rfl Tryd.func37 (by kernel_rfl) rfl #[.slice A2 l2.length c2] rfl qm ?_; (with_reducible refine (malthouselaw11_cells.calls k _ _ l2 t104 _ ?side1 ?side2 A6.out).mono ?_); (case side1 => exact qC HR2.out); (case side2 => exact HC2.out); rintro e w' ⟨rfl, ⟨nd, rfl⟩⟩; refine ⟨_, rfl, ?_⟩))
  (try simp only [Act.put, List.setIfInBounds_toArray, List.set_cons_zero, List.set_cons_succ])
  go_cut [33] (fun v33 wc => ∃ (kq : Nat) (x33_6 : Bool), v33 = .bool x33_6 ∧ Aside0 (malthouselaw11_ProgScans.j0 kq l0 l2 t102 x33_6 a1_0 a1_1 = some r) ∧ Aside0 (kq ≤ k) ∧ Aside0 (wc.heap[gb101]? = some (.cells #[.int .i64 a1_0, .int .i64 a1_1] 57 (0, 0))) ∧ Aside0 (Below w.heap.size w wc))
  case first =>
    have H := HC7.out
    clear HC7
    by_cases c11 : t102 = true
    · subst c11
      rw [if_pos rfl] at H
      by_cases c12 : t103 = true
      · subst c12
        rw [if_pos rfl] at H
        have H' := Aside0.mk H
        clear H
        go_wp2
        go_meet
        case rel => exact ⟨_, (!t104), qv, H', ql, qk101, qB⟩
      replace c12 := Bool.eq_false_iff.mpr c12
      subst c12
      rw [if_neg qf] at H
      have H' := Aside0.mk H
      clear H
      go_wp2
      go_meet
      case rel => exact ⟨_, (true), qv, H', ql, qk101, qB⟩
    replace c11 := Bool.eq_false_iff.mpr c11
    subst c11
    rw [if_neg qf] at H
    have H' := Aside0.mk H
    clear H
    go_wp2
    go_meet
    case rel => exact ⟨_, (true), qv, H', ql, qk101, qB⟩
  clear HC7
  obtain ⟨kq, x33_6, rfl, HA, HJ6, BK101, HB⟩ := hcut
  cases kq with
  | zero => exact absurd HA.out (by simp [malthouselaw11_ProgScans.j0])
  | succ kj6 =>
    have H := HA.out
    clear HA
    simp only [malthouselaw11_ProgScans.j0] at H
    by_cases c13 : x33_6 = true
    · subst c13
      rw [if_pos rfl] at H
      obtain rfl := Option.some.inj H
      go_wp2
      go_ret
      exact qr
    replace c13 := Bool.eq_false_iff.mpr c13
    subst c13
    rw [if_neg qf] at H
    replace H := qi H
    obtain ⟨⟨t105, t106, t107, t110, t111⟩, A14, H⟩ := H
    replace H : ((malthouseref11_Scan.f kj6 l0 a1_0 a1_1 l2).bind fun bt113 => ((malthouseref11_Same.f kj6 t107 bt113.2.2.1).bind fun t121 => (if t121 = true then (if (t105 == bt113.1 && (t106 == bt113.2.1)) = true then (if (t110 == bt113.2.2.2.1) = true then (if t111 = bt113.2.2.2.2 then ((prog_Right.f l0 a1_0 a1_1).bind fun t122 => ((malthouseref11_Right.f kj6 l0 a1_0 a1_1).bind fun t123 => (some (t122 == t123)))) else (some false)) else (some false)) else (some false)) else (some false)))) = some r := H
    replace H := qi H
    obtain ⟨⟨t113, t114, t115, t118, t119⟩, A15, H⟩ := H
    replace H : ((malthouseref11_Same.f kj6 t107 t115).bind fun t121 => (if t121 = true then (if (t105 == t113 && (t106 == t114)) = true then (if (t110 == t118) = true then (if t111 = t119 then ((prog_Right.f l0 a1_0 a1_1).bind fun t122 => ((malthouseref11_Right.f kj6 l0 a1_0 a1_1).bind fun t123 => (some (t122 == t123)))) else (some false)) else (some false)) else (some false)) else (some false))) = some r := H
    replace H := qi H
    obtain ⟨t121, A16, H⟩ := H
    by_cases c17 : t121 = true
    · subst c17
      rw [if_pos rfl] at H
      by_cases c18 : (t105 == t113 && (t106 == t114)) = true
      · rw [if_pos c18] at H
        have c18b0 : (t105 == t113 && (t106 == t114)) = true := c18
        (try (have c18b1 : decide (t105 = t113 && (t106 == t114)) = true := by simpa using c18))
        (try (have c18b2 : (t105 == t113 && (t106 == t114)) = true := by simpa using c18))
        clear c18
        by_cases c19 : (t110 == t118) = true
        · rw [if_pos c19] at H
          have c19b0 : (t110 == t118) = true := c19
          (try (have c19b1 : decide (t110 = t118) = true := by simpa using c19))
          (try (have c19b2 : (t110 == t118) = true := by simpa using c19))
          clear c19
          by_cases c20 : t111 = t119
          · rw [if_pos c20] at H
            obtain ⟨c20b0, c20b1⟩ := qe c20
            clear c20
            replace H := qi H
            obtain ⟨t122, A21, H⟩ := H
            replace H := qi H
            obtain ⟨t123, A22, H⟩ := H
            obtain rfl := Option.some.inj H
            obtain ⟨_, _, _, _⟩ := q2 BK101.out
            try go_wp2_with (first | ((with_reducible refine gate_callee (f := 38) rfl ?_); refine goesL_ (some 39) rfl rfl Tryd.func38 (by kernel_rfl) rfl #[.slice A0 l0.length c0, .agg #[.int .i64 a1_0, .int .i64 a1_1], .slice A2 l2.length c2] rfl qm ?_; (with_reducible refine (prog_Scan.calls kj6 _ _ l0 a1_0 a1_1 _ _ l2 t105 t106 t107 t110 t111 _ ?side1 ?side2 ?side3 ?side4 A14.out (by first | exact HT0.out | exact UT.below HT0.out qb)).mono ?_); (case side1 => exact qC HR0.out); (case side2 => exact HC0.out); (case side3 => exact qC HR2.out); (case side4 => exact HC2.out); rintro e w24 ⟨v108, rfl, ho0, hb⟩; refine ⟨_, rfl, ?_⟩; have n0_ := Aside0.mk (Kd.R_lower ho0 (below_size qb)); have n1_ := qn101 (g := gb101) hb; have n2_ := qs hb; clear BK101; clear HB; have HO109 := n0_; have BK101 := n1_; have HB := n2_; clear n0_ n1_ n2_; (try clear hb); (try clear ho0)) | ((with_reducible refine gate_dst (N := 10) rfl ?_); refine box_event ?hg (N := 10) ?hd (cs := #[.int .i64 0, .int .i64 0]) (t := 57) ?hr ?_; (case hd => rfl); (case hg => rfl); (case hr => first | (go_simp; done) | (go_simp; rfl)); intro gb112 hg w25 hbox hb; have n0_ := Aside0.mk (Kd.R_below (by (with_reducible repeat (first | apply Kd.R_alloc | apply Kd.R_drewN | apply Kd.R_drew)); exact HO109.out) hb); have n1_ := qn101 (g := gb101) hb; have n2_ := qs hb; have n3_ := Aside0.mk (hbox); have n4_ := Aside0.mk ((by rw [hg]; exact (below_size qb) : w.heap.size ≤ gb112)); have n5_ := Aside0.mk ((by rw [hg]; exact (below_size qb) : w.heap.size ≤ gb112)); have n6_ := Aside0.mk ((by rw [hg]; exact Nat.ne_of_lt (blk_lt (g := gb101) (o := .cells #[.int .i64 a1_0, .int .i64 a1_1] 57 (0, 0)) (by (with_reducible repeat (first | refine blk_drewN ?_ _ | refine blk_drew ?_ | refine blk_alloc ?_ _)); exact BK101.out)) : gb101 ≠ gb112)); have n7_ := Aside0.mk ((by rw [hg]; exact Nat.ne_of_gt (blk_lt (g := gb101) (o := .cells #[.int .i64 a1_0, .int .i64 a1_1] 57 (0, 0)) (by (with_reducible repeat (first | refine blk_drewN ?_ _ | refine blk_drew ?_ | refine blk_alloc ?_ _)); exact BK101.out)) : gb112 ≠ gb101)); clear HO109; clear BK101; clear HB; have HO109 := n0_; have BK101 := n1_; have HB := n2_; have BK112 := n3_; have GW112 := n4_; have GE112 := n5_; have NB101_112 := n6_; have NB112_101 := n7_; clear n0_ n1_ n2_ n3_ n4_ n5_ n6_ n7_; clear hb hbox hg; have hnb26 := NB112_101.out; have hnc26 := NB101_112.out; obtain ⟨_, _, _, _⟩ := q2 BK112.out; obtain ⟨_, _, _, _⟩ := q2 BK101.out) | ((with_reducible refine gate_callee (f := 39) rfl ?_); refine goesL_ (some 48) rfl rfl Tryd.func39 (by kernel_rfl) rfl #[.slice A0 l0.length c0, .agg #[.int .i64 a1_0, .int .i64 a1_1], .slice A2 l2.length c2] rfl qm ?_; (with_reducible refine (malthouseref11_Scan.calls kj6 _ _ l0 a1_0 a1_1 _ _ l2 t113 t114 t115 t118 t119 _ ?side1 ?side2 ?side3 ?side4 A15.out).mono ?_); (case side1 => exact Kd.C_below HR0.out qb); (case side2 => exact HC0.out); (case side3 => exact Kd.C_below HR2.out qb); (case side4 => exact HC2.out); rintro e w29 ⟨v116, rfl, ho0, hb⟩; refine ⟨_, rfl, ?_⟩; have n0_ := Aside0.mk (Kd.R_elder' (by (with_reducible repeat (first | apply Kd.R_alloc | apply Kd.R_drewN | apply Kd.R_drew)); exact (Kd.R_mono (Kd.R_far (p := ⟨gb112, 1, none⟩) (Kd.R_far (p := ⟨gb112, 0, none⟩) (Kd.R_types HO109.out BK112.out (by decide)) (fun _ hk => hk.2) (.int .i64 t105)) (fun _ hk => hk.2) (.int .i64 t106)) (fun _ h_ => h_.1))) (Kd.R_base ho0) hb); have n1_ := Aside0.mk (Kd.R_lower (Kd.R_new' ho0 (Kd.R_lt (by (with_reducible repeat (first | apply Kd.R_alloc | apply Kd.R_drewN | apply Kd.R_drew)); exact (Kd.R_mono (Kd.R_far (p := ⟨gb112, 1, none⟩) (Kd.R_far (p := ⟨gb112, 0, none⟩) (Kd.R_types HO109.out BK112.out (by decide)) (fun _ hk => hk.2) (.int .i64 t105)) (fun _ hk => hk.2) (.int .i64 t106)) (fun _ h_ => h_.1))))) (below_size qb)); have n2_ := Aside0.mk (blk_below (g := gb101) (o := .cells #[.int .i64 a1_0, .int .i64 a1_1] 57 (0, 0)) (by (with_reducible repeat (first | refine blk_drewN ?_ _ | refine blk_drew ?_ | refine blk_alloc ?_ _)); refine blk_far ?_ NB101_112.out _; (with_reducible repeat (first | refine blk_drewN ?_ _ | refine blk_drew ?_ | refine blk_alloc ?_ _)); refine blk_far ?_ NB101_112.out _; (with_reducible repeat (first | refine blk_drewN ?_ _ | refine blk_drew ?_ | refine blk_alloc ?_ _)); exact BK101.out) hb); have n3_ := Aside0.mk (blk_below (g := gb112) (o := .cells #[.int .i64 t105, .int .i64 t106] 57 (0, 0)) qy112 hb); have n4_ := qs hb; clear HO109; clear BK101; clear BK112; clear HB; have HO109 := n0_; have HO117 := n1_; have BK101 := n2_; have BK112 := n3_; have HB := n4_; clear n0_ n1_ n2_ n3_ n4_; (try clear hb); (try clear ho0)) | ((with_reducible refine gate_dst (N := 14) rfl ?_); refine box_event ?hg (N := 14) ?hd (cs := #[.int .i64 0, .int .i64 0]) (t := 57) ?hr ?_; (case hd => rfl); (case hg => rfl); (case hr => first | (go_simp; done) | (go_simp; rfl)); intro gb120 hg w30 hbox hb; have n0_ := Aside0.mk (Kd.R_below (by (with_reducible repeat (first | apply Kd.R_alloc | apply Kd.R_drewN | apply Kd.R_drew)); exact HO109.out) hb); have n1_ := Aside0.mk (Kd.R_below (by (with_reducible repeat (first | apply Kd.R_alloc | apply Kd.R_drewN | apply Kd.R_drew)); exact HO117.out) hb); have n2_ := qn101 (g := gb101) hb; have n3_ := qn112 (g := gb112) hb; have n4_ := qs hb; have n5_ := Aside0.mk (hbox); have n6_ := Aside0.mk ((by rw [hg]; exact (below_size qb) : w.heap.size ≤ gb120)); have n7_ := Aside0.mk ((by rw [hg]; exact (below_size qb) : w.heap.size ≤ gb120)); have n8_ := Aside0.mk ((by rw [hg]; exact Nat.ne_of_lt (blk_lt (g := gb101) (o := .cells #[.int .i64 a1_0, .int .i64 a1_1] 57 (0, 0)) (by (with_reducible repeat (first | refine blk_drewN ?_ _ | refine blk_drew ?_ | refine blk_alloc ?_ _)); exact BK101.out)) : gb101 ≠ gb120)); have n9_ := Aside0.mk ((by rw [hg]; exact Nat.ne_of_gt (blk_lt (g := gb101) (o := .cells #[.int .i64 a1_0, .int .i64 a1_1] 57 (0, 0)) (by (with_reducible repeat (first | refine blk_drewN ?_ _ | refine blk_drew ?_ | refine blk_alloc ?_ _)); exact BK101.out)) : gb120 ≠ gb101)); have n10_ := Aside0.mk ((by rw [hg]; exact Nat.ne_of_lt (blk_lt (g := gb112) (o := .cells #[.int .i64 t105, .int .i64 t106] 57 (0, 0)) (by (with_reducible repeat (first | refine blk_drewN ?_ _ | refine blk_drew ?_ | refine blk_alloc ?_ _)); exact BK112.out)) : gb112 ≠ gb120)); have n11_ := Aside0.mk ((by rw [hg]; exact Nat.ne_of_gt (blk_lt (g := gb112) (o := .cells #[.int .i64 t105, .int .i64 t106] 57 (0, 0)) (by (with_reducible repeat (first | refine blk_drewN ?_ _ | refine blk_drew ?_ | refine blk_alloc ?_ _)); exact BK112.out)) : gb120 ≠ gb112)); clear HO109; clear HO117; clear BK101; clear BK112; clear HB; have HO109 := n0_; have HO117 := n1_; have BK101 := n2_; have BK112 := n3_; have HB := n4_; have BK120 := n5_; have GW120 := n6_; have GE120 := n7_; have NB101_120 := n8_; have NB120_101 := n9_; have NB112_120 := n10_; have NB120_112 := n11_; clear n0_ n1_ n2_ n3_ n4_ n5_ n6_ n7_ n8_ n9_ n10_ n11_; clear hb hbox hg; have hnb31 := NB120_101.out; have hnc31 := NB101_120.out; have hnb32 := NB120_112.out; have hnc32 := NB112_120.out; obtain ⟨_, _, _, _⟩ := q2 BK120.out; obtain ⟨Ao34, co34, eo34⟩ := Kd.R_slice HO109.out; subst eo34; obtain ⟨Ao35, co35, eo35⟩ := Kd.R_slice HO117.out; subst eo35) | ((with_reducible refine gate_callee (f := 40) rfl ?_); refine goesL_ (some 55) rfl rfl Tryd.func40 (by kernel_rfl) rfl #[.slice Ao34 t107.length co34, .slice Ao35 t115.length co35] rfl qm ?_; (with_reducible refine (malthouseref11_Same.calls kj6 _ _ t107 _ _ t115 true _ ?side1 ?side2 ?side3 ?side4 A16.out).mono ?_); (case side1 => refine (Kd.R_reads' (e := 72) (base := w.heap.size) (ok := fun k_ => (True ∧ some k_ ≠ (.slice Ao35 t115.length co35 : Value).ownBlock)) (n := t107.length) (c := co34) ?_).2.2; exact (by (with_reducible repeat (first | apply Kd.R_alloc | apply Kd.R_drewN | apply Kd.R_drew)); exact (Kd.R_mono (Kd.R_far (p := ⟨gb120, 1, none⟩) (Kd.R_far (p := ⟨gb120, 0, none⟩) (Kd.R_types HO109.out BK120.out (by decide)) (fun _ hk => hk.2) (.int .i64 t113)) (fun _ hk => hk.2) (.int .i64 t114)) (fun _ h_ => h_.1)))); (case side2 => exact (Kd.R_reads' HO109.out).2.1); (case side3 => refine (Kd.R_reads' (e := 72) (base := w.heap.size) (ok := fun k_ => (True ∧ some k_ ≠ (.slice Ao34 t107.length co34 : Value).ownBlock)) (n := t115.length) (c := co35) ?_).2.2; exact (by (with_reducible repeat (first | apply Kd.R_alloc | apply Kd.R_drewN | apply Kd.R_drew)); exact (Kd.R_mono (Kd.R_far (p := ⟨gb120, 1, none⟩) (Kd.R_far (p := ⟨gb120, 0, none⟩) (Kd.R_types HO117.out BK120.out (by decide)) (fun _ hk => hk.2) (.int .i64 t113)) (fun _ hk => hk.2) (.int .i64 t114)) (fun _ h_ => h_.1)))); (case side4 => exact (Kd.R_reads' HO117.out).2.1); rintro e w' ⟨rfl, ⟨nd, rfl⟩⟩; refine ⟨_, rfl, ?_⟩))
            have n0_ : Aside0 (Kd.R k72 72 ((w30.setCell ⟨gb120, 0, none⟩ (.int .i64 t113)).setCell ⟨gb120, 1, none⟩ (.int .i64 t114)) w.heap.size (fun k_ => some k_ ≠ (.slice Ao35 t115.length co35 : Value).ownBlock) (.slice Ao34 t107.length co34) t107) := ⟨by (with_reducible repeat (first | apply Kd.R_alloc | apply Kd.R_drewN | apply Kd.R_drew)); exact Kd.R_mono (Kd.R_far (p := ⟨gb120, 1, none⟩) (Kd.R_far (p := ⟨gb120, 0, none⟩) (Kd.R_types HO109.out BK120.out (by decide)) (fun _ hk => hk.2) (.int .i64 t113)) (fun _ hk => hk.2) (.int .i64 t114)) (fun _ hk => hk.1.2)⟩
            have n1_ : Aside0 (Kd.R k72 72 ((w30.setCell ⟨gb120, 0, none⟩ (.int .i64 t113)).setCell ⟨gb120, 1, none⟩ (.int .i64 t114)) w.heap.size (fun k_ => some k_ ≠ (.slice Ao34 t107.length co34 : Value).ownBlock) (.slice Ao35 t115.length co35) t115) := ⟨by (with_reducible repeat (first | apply Kd.R_alloc | apply Kd.R_drewN | apply Kd.R_drew)); exact Kd.R_mono (Kd.R_far (p := ⟨gb120, 1, none⟩) (Kd.R_far (p := ⟨gb120, 0, none⟩) (Kd.R_types HO117.out BK120.out (by decide)) (fun _ hk => hk.2) (.int .i64 t113)) (fun _ hk => hk.2) (.int .i64 t114)) (fun _ hk => hk.1.2)⟩
            have n2_ : Aside0 (((w30.setCell ⟨gb120, 0, none⟩ (.int .i64 t113)).setCell ⟨gb120, 1, none⟩ (.int .i64 t114)).heap[gb101]? = some (.cells #[.int .i64 a1_0, .int .i64 a1_1] 57 (0, 0))) := ⟨by (with_reducible repeat (first | refine blk_drewN ?_ _ | refine blk_drew ?_ | refine blk_alloc ?_ _)); refine blk_far ?_ NB101_120.out _; (with_reducible repeat (first | refine blk_drewN ?_ _ | refine blk_drew ?_ | refine blk_alloc ?_ _)); refine blk_far ?_ NB101_120.out _; (with_reducible repeat (first | refine blk_drewN ?_ _ | refine blk_drew ?_ | refine blk_alloc ?_ _)); exact BK101.out⟩
            have n3_ : Aside0 (((w30.setCell ⟨gb120, 0, none⟩ (.int .i64 t113)).setCell ⟨gb120, 1, none⟩ (.int .i64 t114)).heap[gb112]? = some (.cells #[.int .i64 t105, .int .i64 t106] 57 (0, 0))) := ⟨by (with_reducible repeat (first | refine blk_drewN ?_ _ | refine blk_drew ?_ | refine blk_alloc ?_ _)); refine blk_far ?_ NB112_120.out _; (with_reducible repeat (first | refine blk_drewN ?_ _ | refine blk_drew ?_ | refine blk_alloc ?_ _)); refine blk_far ?_ NB112_120.out _; (with_reducible repeat (first | refine blk_drewN ?_ _ | refine blk_drew ?_ | refine blk_alloc ?_ _)); exact BK112.out⟩
            have n4_ : Aside0 (((w30.setCell ⟨gb120, 0, none⟩ (.int .i64 t113)).setCell ⟨gb120, 1, none⟩ (.int .i64 t114)).heap[gb120]? = some (.cells #[.int .i64 t113, .int .i64 t114] 57 (0, 0))) := ⟨by (with_reducible repeat (first | refine blk_drewN ?_ _ | refine blk_drew ?_ | refine blk_alloc ?_ _)); refine blk_put (cs := #[.int .i64 t113, .int .i64 0]) ?_ 1 _ rfl; (with_reducible repeat (first | refine blk_drewN ?_ _ | refine blk_drew ?_ | refine blk_alloc ?_ _)); refine blk_put (cs := #[.int .i64 0, .int .i64 0]) ?_ 0 _ rfl; (with_reducible repeat (first | refine blk_drewN ?_ _ | refine blk_drew ?_ | refine blk_alloc ?_ _)); exact BK120.out⟩
            have n5_ : Aside0 (Below w.heap.size w ((w30.setCell ⟨gb120, 0, none⟩ (.int .i64 t113)).setCell ⟨gb120, 1, none⟩ (.int .i64 t114))) := qB
            generalize ((w30.setCell ⟨gb120, 0, none⟩ (.int .i64 t113)).setCell ⟨gb120, 1, none⟩ (.int .i64 t114)) = w36 at n0_ n1_ n2_ n3_ n4_ n5_ ⊢
            have HO109 := n0_
            have HO117 := n1_
            have BK101 := n2_
            have BK112 := n3_
            have BK120 := n4_
            have HB := n5_
            clear n0_ n1_ n2_ n3_ n4_ n5_
            (try (rw [drewN_self w36]; generalize hq_ : World.drewN w36 _ = w36; have n0_ : Aside0 (Kd.R k72 72 w36 w.heap.size (fun k_ => some k_ ≠ (.slice Ao35 t115.length co35 : Value).ownBlock) (.slice Ao34 t107.length co34) t107) := ⟨by rw [← hq_]; exact (by (with_reducible repeat (first | apply Kd.R_alloc | apply Kd.R_drewN | apply Kd.R_drew)); exact HO109.out)⟩; have n1_ : Aside0 (Kd.R k72 72 w36 w.heap.size (fun k_ => some k_ ≠ (.slice Ao34 t107.length co34 : Value).ownBlock) (.slice Ao35 t115.length co35) t115) := ⟨by rw [← hq_]; exact (by (with_reducible repeat (first | apply Kd.R_alloc | apply Kd.R_drewN | apply Kd.R_drew)); exact HO117.out)⟩; have n2_ : Aside0 (w36.heap[gb101]? = some (.cells #[.int .i64 a1_0, .int .i64 a1_1] 57 (0, 0))) := ⟨by rw [← hq_]; exact (by (with_reducible repeat (first | refine blk_drewN ?_ _ | refine blk_drew ?_ | refine blk_alloc ?_ _)); exact BK101.out)⟩; have n3_ : Aside0 (w36.heap[gb112]? = some (.cells #[.int .i64 t105, .int .i64 t106] 57 (0, 0))) := ⟨by rw [← hq_]; exact (by (with_reducible repeat (first | refine blk_drewN ?_ _ | refine blk_drew ?_ | refine blk_alloc ?_ _)); exact BK112.out)⟩; have n4_ : Aside0 (w36.heap[gb120]? = some (.cells #[.int .i64 t113, .int .i64 t114] 57 (0, 0))) := ⟨by rw [← hq_]; exact (by (with_reducible repeat (first | refine blk_drewN ?_ _ | refine blk_drew ?_ | refine blk_alloc ?_ _)); exact BK120.out)⟩; have n5_ : Aside0 (Below w.heap.size w w36) := ⟨by rw [← hq_]; exact qb⟩; clear HO109 HO117 BK101 BK112 BK120 HB hq_; have HO109 := n0_; have HO117 := n1_; have BK101 := n2_; have BK112 := n3_; have BK120 := n4_; have HB := n5_; clear n0_ n1_ n2_ n3_ n4_ n5_))
            replace HO109 := Aside0.mk (Kd.R_drew HO109.out)
            replace HO117 := Aside0.mk (Kd.R_drew HO117.out)
            replace BK101 := Aside0.mk (blk_drew BK101.out)
            replace BK112 := Aside0.mk (blk_drew BK112.out)
            replace BK120 := Aside0.mk (blk_drew BK120.out)
            replace HB := Aside0.mk (below_drew1 HB.out)
            refine start_ (n := 26) (S := fun w' => w'.cell? ⟨gb112, 0, none⟩ = some (.int .i64 t105) ∧ w'.cell? ⟨gb112, 1, none⟩ = some (.int .i64 t106) ∧ w'.cell? ⟨gb120, 0, none⟩ = some (.int .i64 t113) ∧ w'.cell? ⟨gb120, 1, none⟩ = some (.int .i64 t114) ∧ w'.cell? ⟨gb101, 0, none⟩ = some (.int .i64 a1_0) ∧ w'.cell? ⟨gb101, 1, none⟩ = some (.int .i64 a1_1)) (ds := []) #[false, false, false, false, false, false, false, false, false, false, false, false, false, false, false, false, false, false, false, false, false, false, false, false, false, false] (by kernel_rfl) rfl rfl ⟨(blk_cell BK112.out 0).trans rfl, (blk_cell BK112.out 1).trans rfl, (blk_cell BK120.out 0).trans rfl, (blk_cell BK120.out 1).trans rfl, (blk_cell BK101.out 0).trans rfl, (blk_cell BK101.out 1).trans rfl⟩ (fun hHeld => ?_); refine with_tabW malthouselaw11_ProgScans.tab9 malthouselaw11_ProgScans.bits9 (fun HT_ HW_ => ?_)
            generalize w36.drew = w37 at HO109 HO117 BK101 BK112 BK120 HB hHeld ⊢
            refine qpu 0 (some 56) ?_
            refine qpu 1 (some 57) ?_
            refine qtw6 2 (some 58) hHeld ?_
            refine qtw6 3 (some 59) hHeld ?_
            refine qpu 4 (some 60) ?_
            refine qpu 5 (some 61) ?_
            refine qpu 6 (some 62) ?_
            refine qpu 7 (some 63) ?_
            refine qpu 8 (some 64) ?_
            refine qpu 9 (some 65) ?_
            refine qpu 10 (some 66) ?_
            refine qpu 11 (some 67) ?_
            refine qpu 12 (some 68) ?_
            refine qpu 13 (some 69) ?_
            refine qpu 14 (some 70) ?_
            refine qpu 15 (some 71) ?_
            refine qpu 16 (some 72) ?_
            refine qpu 17 (some 73) ?_
            refine qpu 20 (some 76) ?_
            refine qtw6 18 (some 74) hHeld ?_
            refine qtw6 21 (some 77) hHeld ?_
            refine one_ (i := 19) (N := some 75) #[Y,Y,Y,Y,Y,Y,Y,Y,Y,Y,Y,Y,Y,Y,Y,Y,Y,Y,Y,Y,Y,Y,Z,Z,Z,Z] rfl rfl (one_of HT_.out (by kernel_rfl)) (by decide) (fun K hK => ?_)
            refine goes_ Tryd.func41 (by kernel_rfl) rfl #[.slice A0 l0.length c0, .agg #[.int .i64 a1_0, .int .i64 a1_1]] (by rfl) rfl rfl qm ?_
            with_reducible refine (prog_Right.calls _ _ l0 a1_0 a1_1 t122 _ ?side1 ?side2 A21.out).mono ?_
            (case side1 => exact qC HR0.out)
            (case side2 => exact HC0.out)
            rintro e w38 ⟨rfl, hb⟩
            refine ⟨_, rfl, ?_⟩
            have n0_ := Aside0.mk (Kd.R_below (by (with_reducible repeat (first | apply Kd.R_alloc | apply Kd.R_drewN | apply Kd.R_drew)); exact HO109.out) hb)
            have n1_ := Aside0.mk (Kd.R_below (by (with_reducible repeat (first | apply Kd.R_alloc | apply Kd.R_drewN | apply Kd.R_drew)); exact HO117.out) hb)
            have n2_ := qn101 (g := gb101) hb
            have n3_ := qn112 (g := gb112) hb
            have n4_ := Aside0.mk (blk_below (g := gb120) (o := .cells #[.int .i64 t113, .int .i64 t114] 57 (0, 0)) (by (with_reducible repeat (first | refine blk_drewN ?_ _ | refine blk_drew ?_ | refine blk_alloc ?_ _)); exact BK120.out) hb)
            have n5_ := qs hb
            clear HO109
            clear HO117
            clear BK101
            clear BK112
            clear BK120
            clear HB
            have HO109 := n0_
            have HO117 := n1_
            have BK101 := n2_
            have BK112 := n3_
            have BK120 := n4_
            have HB := n5_
            clear n0_ n1_ n2_ n3_ n4_ n5_
            refine hK.out _ _ ⟨(blk_cell BK112.out 0).trans rfl, (blk_cell BK112.out 1).trans rfl, (blk_cell BK120.out 0).trans rfl, (blk_cell BK120.out 1).trans rfl, (blk_cell BK101.out 0).trans rfl, (blk_cell BK101.out 1).trans rfl⟩ (fun hHeld => ?_)
            clear hK K
            refine norm_ (a' := ?_) ?_ ?_
            rotate_left
            · show Act.put _ (some 75) _ = _
              simp only [Act.put, List.setIfInBounds_toArray, List.set_cons_zero, List.set_cons_succ, i64_w, i32_w]
              rfl
            refine one_ (i := 22) (N := some 78) #[Y,Y,Y,Y,Y,Y,Y,Y,Y,Y,Y,Y,Y,Y,Y,Y,Y,Y,Y,Y,Y,Y,Y,Z,Z,Z] rfl rfl (one_of HT_.out (by kernel_rfl)) (by decide) (fun K hK => ?_)
            refine goes_ Tryd.func42 (by kernel_rfl) rfl #[.slice A0 l0.length c0, .agg #[.int .i64 a1_0, .int .i64 a1_1]] (by rfl) rfl rfl qm ?_
            with_reducible refine (malthouseref11_Right.calls kj6 _ _ l0 a1_0 a1_1 t123 _ ?side1 ?side2 A22.out).mono ?_
            (case side1 => exact qC HR0.out)
            (case side2 => exact HC0.out)
            rintro e w39 ⟨rfl, hb⟩
            refine ⟨_, rfl, ?_⟩
            have n0_ := Aside0.mk (Kd.R_below (by (with_reducible repeat (first | apply Kd.R_alloc | apply Kd.R_drewN | apply Kd.R_drew)); exact HO109.out) hb)
            have n1_ := Aside0.mk (Kd.R_below (by (with_reducible repeat (first | apply Kd.R_alloc | apply Kd.R_drewN | apply Kd.R_drew)); exact HO117.out) hb)
            have n2_ := qn101 (g := gb101) hb
            have n3_ := qn112 (g := gb112) hb
            have n4_ := Aside0.mk (blk_below (g := gb120) (o := .cells #[.int .i64 t113, .int .i64 t114] 57 (0, 0)) (by (with_reducible repeat (first | refine blk_drewN ?_ _ | refine blk_drew ?_ | refine blk_alloc ?_ _)); exact BK120.out) hb)
            have n5_ := qs hb
            clear HO109
            clear HO117
            clear BK101
            clear BK112
            clear BK120
            clear HB
            have HO109 := n0_
            have HO117 := n1_
            have BK101 := n2_
            have BK112 := n3_
            have BK120 := n4_
            have HB := n5_
            clear n0_ n1_ n2_ n3_ n4_ n5_
            refine hK.out _ _ ⟨(blk_cell BK112.out 0).trans rfl, (blk_cell BK112.out 1).trans rfl, (blk_cell BK120.out 0).trans rfl, (blk_cell BK120.out 1).trans rfl, (blk_cell BK101.out 0).trans rfl, (blk_cell BK101.out 1).trans rfl⟩ (fun hHeld => ?_)
            clear hK K
            refine norm_ (a' := ?_) ?_ ?_
            rotate_left
            · show Act.put _ (some 78) _ = _
              simp only [Act.put, List.setIfInBounds_toArray, List.set_cons_zero, List.set_cons_succ, i64_w, i32_w]
              rfl
            refine qpu 23 (some 79) ?_
            refine qpu 24 (some 80) ?_
            refine qpu 25 (some 6) ?_
            refine done_ (done_of HT_.out (by kernel_rfl)) ?_
            try go_wp2
            go_ret
            exact qr
          rw [if_neg c20] at H
          obtain ⟨c20b0, c20b1⟩ := qd c20
          exact absurd ((Option.some.inj H).trans HRT.out) (by decide)
        rw [if_neg c19] at H
        have c19b0 : (t110 == t118) = false := by simpa using c19
        (try (have c19b1 : decide (t110 = t118) = false := by simpa using c19))
        (try (have c19b2 : (t110 == t118) = false := by simpa using c19))
        (try (have c19b3 : ¬ (t110 = t118) := by simpa using c19))
        clear c19
        exact absurd ((Option.some.inj H).trans HRT.out) (by decide)
      rw [if_neg c18] at H
      have c18b0 : (t105 == t113 && (t106 == t114)) = false := by simpa using c18
      (try (have c18b1 : decide (t105 = t113 && (t106 == t114)) = false := by simpa using c18))
      (try (have c18b2 : (t105 == t113 && (t106 == t114)) = false := by simpa using c18))
      (try (have c18b3 : ¬ (t105 = t113 && (t106 == t114)) := by simpa using c18))
      clear c18
      exact absurd ((Option.some.inj H).trans HRT.out) (by decide)
    replace c17 := Bool.eq_false_iff.mpr c17
    subst c17
    rw [if_neg qf] at H
    exact absurd ((Option.some.inj H).trans HRT.out) (by decide)
end Go.Proofs.YtiaccdaeomaogaaDoor.F
