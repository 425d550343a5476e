/- Texts of one claim, slimmed and merged by slim.py. -/
import Derived.Test.YtiaccdaeomaogaaDoorT4
import Derived.Test.YtiaccdaeomaogaaDoorT24
import Derived.Test.YtiaccdaeomaogaaDoorT26
namespace Go.Proofs.YtiaccdaeomaogaaDoor.F
open Go.RowKit Go.Proofs.YtiaccdaeomaogaaDoorW.PrintWords Go.Proofs.YtiaccdaeomaogaaDoorW.PrintLast Go.Proofs.YtiaccdaeomaogaaDoorW.PrintMore
attribute [local go_sem] max2_int min2_int max_two min_two max_three min_three max_four min_four   -- for this text's walks alone
set_option linter.unusedVariables false
set_option linter.unusedSimpArgs false
mutual
def malthouseref02_left.j0 : Nat → Int → Bool → Int → Int → ByteArray → List (S34) → Option (Int)
  | 0, _, _, _, _, _, _ => none
  | k + 1, x1, x20, x102000, x102001, x102002, x102003 => if x20 = true then (some (-1)) else (if x102000 = 0 then (malthouseref02_left.j1 k x1 true x102000 x102001 x102002 x102003) else (malthouseref02_left.j1 k x1 (x102000 == 1) x102000 x102001 x102002 x102003))
def malthouseref02_left.j1 : Nat → Int → Bool → Int → Int → ByteArray → List (S34) → Option (Int)
  | 0, _, _, _, _, _, _ => none
  | k + 1, x1, x28, x102000, x102001, x102002, x102003 => if x28 = true then ((malthouseref01_Name.f k x102002).bind fun t102 => (if (x102003.length : Int) = 0 then (if x102000 = 0 then (if x102001 < 0 then (some (-1)) else (if x102002.toList = ([] : List UInt8) then (if x102000 = 1 then (if t102 = true then (if x102001 = 0 then (some (wrap64 (x1 - 1))) else (some (-1))) else (some (-1))) else (some (wrap64 (x1 - 1)))) else (some (-1)))) else (if x102000 = 1 then (if t102 = true then (if x102001 = 0 then (some (wrap64 (x1 - 1))) else (some (-1))) else (some (-1))) else (some (wrap64 (x1 - 1))))) else (some (-1)))) else (if x102000 = 2 then (malthouseref02_left.j2 k x1 2 true x102000 x102001 x102002 x102003) else (malthouseref02_left.j2 k x1 2 (x102000 == 3) x102000 x102001 x102002 x102003))
def malthouseref02_left.j2 : Nat → Int → Int → Bool → Int → Int → ByteArray → List (S34) → Option (Int)
  | 0, _, _, _, _, _, _, _ => none
  | k + 1, x1, x6, x74, x102000, x102001, x102002, x102003 => if x74 = true then (malthouseref02_left.j3 k x1 1 x102000 x102001 x102002 x102003) else (malthouseref02_left.j3 k x1 x6 x102000 x102001 x102002 x102003)
def malthouseref02_left.j3 : Nat → Int → Int → Int → Int → ByteArray → List (S34) → Option (Int)
  | 0, _, _, _, _, _, _ => none
  | k + 1, x1, x6, x102000, x102001, x102002, x102003 => if (x102003.length : Int) = x6 then (if x102001 = 0 then (malthouseref02_left.j4 k x1 x6 (x102002.toList != ([] : List UInt8)) x102000 x102001 x102002 x102003) else (malthouseref02_left.j4 k x1 x6 true x102000 x102001 x102002 x102003)) else (malthouseref02_left.j4 k x1 x6 true x102000 x102001 x102002 x102003)
def malthouseref02_left.j4 : Nat → Int → Int → Bool → Int → Int → ByteArray → List (S34) → Option (Int)
  | 0, _, _, _, _, _, _, _ => none
  | k + 1, x1, x6, x89, x102000, x102001, x102002, x102003 => if x89 = true then (some (-1)) else (malthouseref02_left.l0 k (wrap64 (x1 - 1)) x6 0 x102000 x102001 x102002 x102003)
def malthouseref02_left.l0 : Nat → Int → Int → Int → Int → Int → ByteArray → List (S34) → Option (Int)
  | 0, _, _, _, _, _, _, _ => none
  | k + 1, x1, x6, x7, x102000, x102001, x102002, x102003 => if x7 < x6 then (if 0 ≤ x7 then (if x7 < (x102003.length : Int) then ((malthouseref02_left.f k ((rd_T34 x102003 x7).f0) ((rd_T34 x102003 x7).f1) ((rd_T34 x102003 x7).f2) ((rd_T34 x102003 x7).f3) x1).bind fun t104 => (if t104 < 0 then (some (-1)) else ((malthouseref02_Wrapped.f k x102000 x102001 x102002 x102003 x7).bind fun t105 => (if t105 = true then (malthouseref02_left.l0 k (wrap64 (t104 - 2)) x6 (wrap64 (x7 + 1)) x102000 x102001 x102002 x102003) else (malthouseref02_left.l0 k t104 x6 (wrap64 (x7 + 1)) x102000 x102001 x102002 x102003))))) else (none)) else (none)) else (some x1)
def malthouseref02_left.f : Nat → Int → Int → ByteArray → List (S34) → Int → Option (Int)
  | 0, _, _, _, _, _ => none
  | k + 1, a0_0, a0_1, a0_2, l0_3, a1 => if a1 < 1 then (malthouseref02_left.j0 k a1 true a0_0 a0_1 a0_2 l0_3) else (if a0_0 < 0 then (malthouseref02_left.j0 k a1 true a0_0 a0_1 a0_2 l0_3) else (malthouseref02_left.j0 k a1 (decide (a0_0 > 16)) a0_0 a0_1 a0_2 l0_3))
end
set_option maxHeartbeats 8000000 in
set_option maxRecDepth 100000 in
theorem malthouseref02_left.calls (k : Nat) : ∀ (a0_0 : Int) (a0_1 : Int) (a0_2 : ByteArray) (A0_3 : Option Addr) (c0_3 : Nat) (l0_3 : List (S34)) (a1 : Int) (r : Int) (w : World) (hr0_3 : Kd.C k34 w A0_3 l0_3.length l0_3) (hc0_3 : l0_3.length ≤ c0_3) (h : malthouseref02_left.f k a0_0 a0_1 a0_2 l0_3 a1 = some r),
    Calls Tryd.prog 108 #[.agg #[.int .i64 a0_0, .int .i64 a0_1, .string a0_2, .slice A0_3 l0_3.length c0_3], .int .i64 a1] w fun e w' => e = .returned (.int .i64 r) ∧ Below w.heap.size w w' := by
  induction k using Nat.strongRecOn with
  | _ k ih =>
  intro a0_0 a0_1 a0_2 A0_3 c0_3 l0_3 a1 r w hr0_3 hc0_3 h
  cases k with
  | zero => exact absurd h (by simp [malthouseref02_left.f])
  | succ k =>
  simp only [malthouseref02_left.f] at h
  have hu34 := Tryd.underlying34
  have HR0_3 := Aside0.mk hr0_3
  have HC0_3 := Aside0.mk hc0_3
  clear hr0_3 hc0_3
  have HB := Aside0.mk (Below.refl w.heap.size w)
  have H : (if a1 < 1 then (malthouseref02_left.j0 k a1 true a0_0 a0_1 a0_2 l0_3) else (if a0_0 < 0 then (malthouseref02_left.j0 k a1 true a0_0 a0_1 a0_2 l0_3) else (malthouseref02_left.j0 k a1 (decide (a0_0 > 16)) a0_0 a0_1 a0_2 l0_3))) = some r := h
  clear h
  have HC3 := Aside0.mk H
  clear H
  go_enter Tryd.func108, Tryd.ntmps108
  go_upto_region 1 with (first | ((with_reducible refine gate_dst (N := 2) rfl ?_); refine box_event ?hg (N := 2) ?hd (cs := #[.int .i64 a0_0, .int .i64 a0_1, .string a0_2, .slice A0_3 l0_3.length c0_3]) (t := 34) ?hr ?_; (case hd => rfl); (case hg => rfl); (case hr => first | (go_simp; done) | (go_simp; rfl)); intro gb101 hg w4 hbox hb; have n0_ := qs hb; have n1_ := Aside0.mk (hbox); have n2_ := Aside0.mk ((by rw [hg]; exact (below_size qb) : w.heap.size ≤ gb101)); have n3_ := Aside0.mk ((by rw [hg]; exact (below_size qb) : w.heap.size ≤ gb101)); clear HB; have HB := n0_; have BK101 := n1_; have GW101 := n2_; have GE101 := n3_; clear n0_ n1_ n2_ n3_; clear hb hbox hg))
  (try simp only [Act.put, List.setIfInBounds_toArray, List.set_cons_zero, List.set_cons_succ])
  go_cut [20] (fun v20 wc => ∃ (kq : Nat) (x20_2 : Bool), v20 = .bool x20_2 ∧ Aside0 (malthouseref02_left.j0 kq a1 x20_2 a0_0 a0_1 a0_2 l0_3 = some r) ∧ Aside0 (kq ≤ k) ∧ Aside0 (wc.heap[gb101]? = some (.cells #[.int .i64 a0_0, .int .i64 a0_1, .string a0_2, (.slice A0_3 l0_3.length c0_3)] 34 (0, 0))) ∧ Aside0 (Below w.heap.size w wc))
  case first =>
    have H := HC3.out
    clear HC3
    by_cases c5 : a1 < 1
    · rw [if_pos c5] at H
      have c5b0 : decide (a1 < 1) = true := decide_eq_true c5
      clear c5
      (first | rw [c5b0] | (simp only [i64_w, i32_w]; rw [c5b0]) | skip)
      have H' := Aside0.mk H
      clear H
      go_wp2
      go_meet
      case rel => exact ⟨_, (true), qv, H', ql, qk101, qB⟩
    rw [if_neg c5] at H
    have c5b0 : decide (a1 < 1) = false := decide_eq_false c5
    clear c5
    (first | rw [c5b0] | (simp only [i64_w, i32_w]; rw [c5b0]) | skip)
    by_cases c6 : a0_0 < 0
    · rw [if_pos c6] at H
      have c6b0 : decide (a0_0 < 0) = true := decide_eq_true c6
      clear c6
      have H' := Aside0.mk H
      clear H
      obtain ⟨_, _, _, _, _, _, _, _⟩ := q4 BK101.out
      go_wp2
      go_meet
      case rel => exact ⟨_, (true), qv, H', ql, qk101, qB⟩
    rw [if_neg c6] at H
    have c6b0 : decide (a0_0 < 0) = false := decide_eq_false c6
    clear c6
    have H' := Aside0.mk H
    clear H
    obtain ⟨_, _, _, _, _, _, _, _⟩ := q4 BK101.out
    go_wp2
    go_meet
    case rel => exact ⟨_, (decide (a0_0 > 16)), qv, H', ql, qk101, qB⟩
  clear HC3
  obtain ⟨kq, x20_2, rfl, HA, HJ2, BK101, HB⟩ := hcut
  cases kq with
  | zero => exact absurd HA.out (by simp [malthouseref02_left.j0])
  | succ kj2 =>
    have H := HA.out
    clear HA
    simp only [malthouseref02_left.j0] at H
    by_cases c9 : x20_2 = true
    · subst c9
      rw [if_pos rfl] at H
      obtain rfl := Option.some.inj H
      go_wp2
      go_ret
      exact qr
    replace c9 := Bool.eq_false_iff.mpr c9
    subst c9
    rw [if_neg qf] at H
    have HC10 := Aside0.mk H
    clear H
    go_upto_region 3 with (fail)
    go_cut [28] (fun v28 wc => ∃ (kq : Nat) (x28_9 : Bool), v28 = .bool x28_9 ∧ Aside0 (malthouseref02_left.j1 kq a1 x28_9 a0_0 a0_1 a0_2 l0_3 = some r) ∧ Aside0 (kq ≤ kj2) ∧ Aside0 (wc.heap[gb101]? = some (.cells #[.int .i64 a0_0, .int .i64 a0_1, .string a0_2, (.slice A0_3 l0_3.length c0_3)] 34 (0, 0))) ∧ Aside0 (Below w.heap.size w wc))
    case first =>
      have H := HC10.out
      clear HC10
      by_cases c11 : a0_0 = 0
      · rw [if_pos c11] at H
        obtain ⟨c11b0, c11b1⟩ := qe c11
        clear c11
        (first | rw [c11b0] | (simp only [i64_w, i32_w]; rw [c11b0]) | skip)
        have H' := Aside0.mk H
        clear H
        obtain ⟨_, _, _, _, _, _, _, _⟩ := q4 BK101.out
        go_wp2
        go_meet
        case rel => exact ⟨_, (true), qv, H', ⟨by have := HJ2.out; first | omega | exact Nat.le_refl _⟩, qk101, qB⟩
      rw [if_neg c11] at H
      obtain ⟨c11b0, c11b1⟩ := qd c11
      (first | rw [c11b0] | (simp only [i64_w, i32_w]; rw [c11b0]) | skip)
      have H' := Aside0.mk H
      clear H
      obtain ⟨_, _, _, _, _, _, _, _⟩ := q4 BK101.out
      go_wp2
      go_meet
      case rel => exact ⟨_, ((a0_0 == 1)), qv, H', ⟨by have := HJ2.out; first | omega | exact Nat.le_refl _⟩, qk101, qB⟩
    clear HC10
    obtain ⟨kq, x28_9, rfl, HA, HJ9, BK101, HB⟩ := hcut
    cases kq with
    | zero => exact absurd HA.out (by simp [malthouseref02_left.j1])
    | succ kj9 =>
      have H := HA.out
      clear HA
      simp only [malthouseref02_left.j1] at H
      by_cases c14 : x28_9 = true
      · subst c14
        rw [if_pos rfl] at H
        replace H := qi H
        obtain ⟨t102, A15, H⟩ := H
        by_cases c16 : (l0_3.length : Int) = 0
        · rw [if_pos c16] at H
          obtain ⟨c16b0, c16b1⟩ := qe c16
          clear c16
          by_cases c17 : a0_0 = 0
          · rw [if_pos c17] at H
            obtain ⟨c17b0, c17b1⟩ := qe c17
            clear c17
            by_cases c18 : a0_1 < 0
            · rw [if_pos c18] at H
              have c18b0 : decide (a0_1 < 0) = true := decide_eq_true c18
              clear c18
              obtain rfl := Option.some.inj H
              obtain ⟨_, _, _, _, _, _, _, _⟩ := q4 BK101.out
              go_wp2_with (first | ((with_reducible refine gate_callee (f := 94) rfl ?_); refine goesL_ (some 31) rfl rfl Tryd.func94 (by kernel_rfl) rfl #[.string a0_2] rfl qm ?_; (with_reducible refine (malthouseref01_Name.calls kj9 a0_2 t102 _ A15.out).mono ?_); rintro e w20 ⟨rfl, hb⟩; refine ⟨_, rfl, ?_⟩; have n0_ := qn101 (g := gb101) hb; have n1_ := qs hb; clear BK101; clear HB; have BK101 := n0_; have HB := n1_; clear n0_ n1_; (try clear hb); obtain ⟨_, _, _, _, _, _, _, _⟩ := q4 BK101.out))
              go_ret
              exact qr
            rw [if_neg c18] at H
            have c18b0 : decide (a0_1 < 0) = false := decide_eq_false c18
            clear c18
            by_cases c22 : a0_2.toList = ([] : List UInt8)
            · rw [if_pos c22] at H
              obtain ⟨c22b0, c22b1⟩ := qe c22
              clear c22
              by_cases c23 : a0_0 = 1
              · rw [if_pos c23] at H
                obtain ⟨c23b0, c23b1⟩ := qe c23
                clear c23
                by_cases c24 : t102 = true
                · subst c24
                  rw [if_pos rfl] at H
                  by_cases c25 : a0_1 = 0
                  · rw [if_pos c25] at H
                    obtain ⟨c25b0, c25b1⟩ := qe c25
                    clear c25
                    obtain rfl := Option.some.inj H
                    obtain ⟨_, _, _, _, _, _, _, _⟩ := q4 BK101.out
                    go_wp2_with (first | ((with_reducible refine gate_callee (f := 94) rfl ?_); refine goesL_ (some 31) rfl rfl Tryd.func94 (by kernel_rfl) rfl #[.string a0_2] rfl qm ?_; (with_reducible refine (malthouseref01_Name.calls kj9 a0_2 true _ A15.out).mono ?_); rintro e w27 ⟨rfl, hb⟩; refine ⟨_, rfl, ?_⟩; have n0_ := qn101 (g := gb101) hb; have n1_ := qs hb; clear BK101; clear HB; have BK101 := n0_; have HB := n1_; clear n0_ n1_; (try clear hb); obtain ⟨_, _, _, _, _, _, _, _⟩ := q4 BK101.out))
                    go_ret
                    exact qr
                  rw [if_neg c25] at H
                  obtain ⟨c25b0, c25b1⟩ := qd c25
                  obtain rfl := Option.some.inj H
                  obtain ⟨_, _, _, _, _, _, _, _⟩ := q4 BK101.out
                  go_wp2_with (first | ((with_reducible refine gate_callee (f := 94) rfl ?_); refine goesL_ (some 31) rfl rfl Tryd.func94 (by kernel_rfl) rfl #[.string a0_2] rfl qm ?_; (with_reducible refine (malthouseref01_Name.calls kj9 a0_2 true _ A15.out).mono ?_); rintro e w30 ⟨rfl, hb⟩; refine ⟨_, rfl, ?_⟩; have n0_ := qn101 (g := gb101) hb; have n1_ := qs hb; clear BK101; clear HB; have BK101 := n0_; have HB := n1_; clear n0_ n1_; (try clear hb); obtain ⟨_, _, _, _, _, _, _, _⟩ := q4 BK101.out))
                  go_ret
                  exact qr
                replace c24 := Bool.eq_false_iff.mpr c24
                subst c24
                rw [if_neg qf] at H
                obtain rfl := Option.some.inj H
                obtain ⟨_, _, _, _, _, _, _, _⟩ := q4 BK101.out
                go_wp2_with (first | ((with_reducible refine gate_callee (f := 94) rfl ?_); refine goesL_ (some 31) rfl rfl Tryd.func94 (by kernel_rfl) rfl #[.string a0_2] rfl qm ?_; (with_reducible refine (malthouseref01_Name.calls kj9 a0_2 false _ A15.out).mono ?_); rintro e w33 ⟨rfl, hb⟩; refine ⟨_, rfl, ?_⟩; have n0_ := qn101 (g := gb101) hb; have n1_ := qs hb; clear BK101; clear HB; have BK101 := n0_; have HB := n1_; clear n0_ n1_; (try clear hb); obtain ⟨_, _, _, _, _, _, _, _⟩ := q4 BK101.out))
                go_ret
                exact qr
              rw [if_neg c23] at H
              obtain ⟨c23b0, c23b1⟩ := qd c23
              obtain rfl := Option.some.inj H
              obtain ⟨_, _, _, _, _, _, _, _⟩ := q4 BK101.out
              go_wp2_with (first | ((with_reducible refine gate_callee (f := 94) rfl ?_); refine goesL_ (some 31) rfl rfl Tryd.func94 (by kernel_rfl) rfl #[.string a0_2] rfl qm ?_; (with_reducible refine (malthouseref01_Name.calls kj9 a0_2 t102 _ A15.out).mono ?_); rintro e w36 ⟨rfl, hb⟩; refine ⟨_, rfl, ?_⟩; have n0_ := qn101 (g := gb101) hb; have n1_ := qs hb; clear BK101; clear HB; have BK101 := n0_; have HB := n1_; clear n0_ n1_; (try clear hb); obtain ⟨_, _, _, _, _, _, _, _⟩ := q4 BK101.out))
              go_ret
              exact qr
            rw [if_neg c22] at H
            obtain ⟨c22b0, c22b1⟩ := qd c22
            obtain rfl := Option.some.inj H
            obtain ⟨_, _, _, _, _, _, _, _⟩ := q4 BK101.out
            go_wp2_with (first | ((with_reducible refine gate_callee (f := 94) rfl ?_); refine goesL_ (some 31) rfl rfl Tryd.func94 (by kernel_rfl) rfl #[.string a0_2] rfl qm ?_; (with_reducible refine (malthouseref01_Name.calls kj9 a0_2 t102 _ A15.out).mono ?_); rintro e w39 ⟨rfl, hb⟩; refine ⟨_, rfl, ?_⟩; have n0_ := qn101 (g := gb101) hb; have n1_ := qs hb; clear BK101; clear HB; have BK101 := n0_; have HB := n1_; clear n0_ n1_; (try clear hb); obtain ⟨_, _, _, _, _, _, _, _⟩ := q4 BK101.out))
            go_ret
            exact qr
          rw [if_neg c17] at H
          obtain ⟨c17b0, c17b1⟩ := qd c17
          by_cases c41 : a0_0 = 1
          · rw [if_pos c41] at H
            obtain ⟨c41b0, c41b1⟩ := qe c41
            clear c41
            by_cases c42 : t102 = true
            · subst c42
              rw [if_pos rfl] at H
              by_cases c43 : a0_1 = 0
              · rw [if_pos c43] at H
                obtain ⟨c43b0, c43b1⟩ := qe c43
                clear c43
                obtain rfl := Option.some.inj H
                obtain ⟨_, _, _, _, _, _, _, _⟩ := q4 BK101.out
                go_wp2_with (first | ((with_reducible refine gate_callee (f := 94) rfl ?_); refine goesL_ (some 31) rfl rfl Tryd.func94 (by kernel_rfl) rfl #[.string a0_2] rfl qm ?_; (with_reducible refine (malthouseref01_Name.calls kj9 a0_2 true _ A15.out).mono ?_); rintro e w45 ⟨rfl, hb⟩; refine ⟨_, rfl, ?_⟩; have n0_ := qn101 (g := gb101) hb; have n1_ := qs hb; clear BK101; clear HB; have BK101 := n0_; have HB := n1_; clear n0_ n1_; (try clear hb); obtain ⟨_, _, _, _, _, _, _, _⟩ := q4 BK101.out))
                go_ret
                exact qr
              rw [if_neg c43] at H
              obtain ⟨c43b0, c43b1⟩ := qd c43
              obtain rfl := Option.some.inj H
              obtain ⟨_, _, _, _, _, _, _, _⟩ := q4 BK101.out
              go_wp2_with (first | ((with_reducible refine gate_callee (f := 94) rfl ?_); refine goesL_ (some 31) rfl rfl Tryd.func94 (by kernel_rfl) rfl #[.string a0_2] rfl qm ?_; (with_reducible refine (malthouseref01_Name.calls kj9 a0_2 true _ A15.out).mono ?_); rintro e w48 ⟨rfl, hb⟩; refine ⟨_, rfl, ?_⟩; have n0_ := qn101 (g := gb101) hb; have n1_ := qs hb; clear BK101; clear HB; have BK101 := n0_; have HB := n1_; clear n0_ n1_; (try clear hb); obtain ⟨_, _, _, _, _, _, _, _⟩ := q4 BK101.out))
              go_ret
              exact qr
            replace c42 := Bool.eq_false_iff.mpr c42
            subst c42
            rw [if_neg qf] at H
            obtain rfl := Option.some.inj H
            obtain ⟨_, _, _, _, _, _, _, _⟩ := q4 BK101.out
            go_wp2_with (first | ((with_reducible refine gate_callee (f := 94) rfl ?_); refine goesL_ (some 31) rfl rfl Tryd.func94 (by kernel_rfl) rfl #[.string a0_2] rfl qm ?_; (with_reducible refine (malthouseref01_Name.calls kj9 a0_2 false _ A15.out).mono ?_); rintro e w51 ⟨rfl, hb⟩; refine ⟨_, rfl, ?_⟩; have n0_ := qn101 (g := gb101) hb; have n1_ := qs hb; clear BK101; clear HB; have BK101 := n0_; have HB := n1_; clear n0_ n1_; (try clear hb); obtain ⟨_, _, _, _, _, _, _, _⟩ := q4 BK101.out))
            go_ret
            exact qr
          rw [if_neg c41] at H
          obtain ⟨c41b0, c41b1⟩ := qd c41
          obtain rfl := Option.some.inj H
          obtain ⟨_, _, _, _, _, _, _, _⟩ := q4 BK101.out
          go_wp2_with (first | ((with_reducible refine gate_callee (f := 94) rfl ?_); refine goesL_ (some 31) rfl rfl Tryd.func94 (by kernel_rfl) rfl #[.string a0_2] rfl qm ?_; (with_reducible refine (malthouseref01_Name.calls kj9 a0_2 t102 _ A15.out).mono ?_); rintro e w54 ⟨rfl, hb⟩; refine ⟨_, rfl, ?_⟩; have n0_ := qn101 (g := gb101) hb; have n1_ := qs hb; clear BK101; clear HB; have BK101 := n0_; have HB := n1_; clear n0_ n1_; (try clear hb); obtain ⟨_, _, _, _, _, _, _, _⟩ := q4 BK101.out))
          go_ret
          exact qr
        rw [if_neg c16] at H
        obtain ⟨c16b0, c16b1⟩ := qd c16
        have c16b2 : ¬ (l0_3 = []) := fun h_ => c16 (by rw [h_]; rfl)
        obtain rfl := Option.some.inj H
        obtain ⟨_, _, _, _, _, _, _, _⟩ := q4 BK101.out
        go_wp2_with (first | ((with_reducible refine gate_callee (f := 94) rfl ?_); refine goesL_ (some 31) rfl rfl Tryd.func94 (by kernel_rfl) rfl #[.string a0_2] rfl qm ?_; (with_reducible refine (malthouseref01_Name.calls kj9 a0_2 t102 _ A15.out).mono ?_); rintro e w57 ⟨rfl, hb⟩; refine ⟨_, rfl, ?_⟩; have n0_ := qn101 (g := gb101) hb; have n1_ := qs hb; clear BK101; clear HB; have BK101 := n0_; have HB := n1_; clear n0_ n1_; (try clear hb); obtain ⟨_, _, _, _, _, _, _, _⟩ := q4 BK101.out))
        go_ret
        exact qr
      replace c14 := Bool.eq_false_iff.mpr c14
      subst c14
      rw [if_neg qf] at H
      have HC59 := Aside0.mk H
      clear H
      go_upto_region 9 with (fail)
      go_cut [74] (fun v74 wc => ∃ (kq : Nat) (x74_58 : Bool), v74 = .bool x74_58 ∧ Aside0 (malthouseref02_left.j2 kq a1 2 x74_58 a0_0 a0_1 a0_2 l0_3 = some r) ∧ Aside0 (kq ≤ kj9) ∧ Aside0 (wc.heap[gb101]? = some (.cells #[.int .i64 a0_0, .int .i64 a0_1, .string a0_2, (.slice A0_3 l0_3.length c0_3)] 34 (0, 0))) ∧ Aside0 (Below w.heap.size w wc))
      case first =>
        have H := HC59.out
        clear HC59
        by_cases c60 : a0_0 = 2
        · rw [if_pos c60] at H
          obtain ⟨c60b0, c60b1⟩ := qe c60
          clear c60
          (first | rw [c60b0] | (simp only [i64_w, i32_w]; rw [c60b0]) | skip)
          have H' := Aside0.mk H
          clear H
          obtain ⟨_, _, _, _, _, _, _, _⟩ := q4 BK101.out
          go_wp2
          go_meet
          case rel => exact ⟨_, (true), qv, H', ⟨by have := HJ2.out; have := HJ9.out; first | omega | exact Nat.le_refl _⟩, qk101, qB⟩
        rw [if_neg c60] at H
        obtain ⟨c60b0, c60b1⟩ := qd c60
        (first | rw [c60b0] | (simp only [i64_w, i32_w]; rw [c60b0]) | skip)
        have H' := Aside0.mk H
        clear H
        obtain ⟨_, _, _, _, _, _, _, _⟩ := q4 BK101.out
        go_wp2
        go_meet
        case rel => exact ⟨_, ((a0_0 == 3)), qv, H', ⟨by have := HJ2.out; have := HJ9.out; first | omega | exact Nat.le_refl _⟩, qk101, qB⟩
      clear HC59
      obtain ⟨kq, x74_58, rfl, HA, HJ58, BK101, HB⟩ := hcut
      cases kq with
      | zero => exact absurd HA.out (by simp [malthouseref02_left.j2])
      | succ kj58 =>
        have H := HA.out
        clear HA
        simp only [malthouseref02_left.j2] at H
        have HC63 := Aside0.mk H
        clear H
        go_upto_if 74 with (fail)
        go_cut [6] (fun v6 wc => ∃ (kq : Nat) (x6_62 : Int), v6 = .int .i64 x6_62 ∧ Aside0 (malthouseref02_left.j3 kq a1 x6_62 a0_0 a0_1 a0_2 l0_3 = some r) ∧ Aside0 (kq ≤ kj58) ∧ Aside0 (wc.heap[gb101]? = some (.cells #[.int .i64 a0_0, .int .i64 a0_1, .string a0_2, (.slice A0_3 l0_3.length c0_3)] 34 (0, 0))) ∧ Aside0 (Below w.heap.size w wc))
        case first =>
          have H := HC63.out
          clear HC63
          by_cases c64 : x74_58 = true
          · subst c64
            rw [if_pos rfl] at H
            have H' := Aside0.mk H
            clear H
            go_wp2
            go_meet
            case rel => exact ⟨_, (1), qv, H', ⟨by have := HJ2.out; have := HJ9.out; have := HJ58.out; first | omega | exact Nat.le_refl _⟩, qk101, qB⟩
          replace c64 := Bool.eq_false_iff.mpr c64
          subst c64
          rw [if_neg qf] at H
          have H' := Aside0.mk H
          clear H
          go_wp2
          go_meet
          case rel => exact ⟨_, (2), qv, H', ⟨by have := HJ2.out; have := HJ9.out; have := HJ58.out; first | omega | exact Nat.le_refl _⟩, qk101, qB⟩
        clear HC63
        obtain ⟨kq, x6_62, rfl, HA, HJ62, BK101, HB⟩ := hcut
        cases kq with
        | zero => exact absurd HA.out (by simp [malthouseref02_left.j3])
        | succ kj62 =>
          have H := HA.out
          clear HA
          simp only [malthouseref02_left.j3] at H
          have HC65 := Aside0.mk H
          clear H
          go_upto_region 11 with (fail)
          go_cut [89] (fun v89 wc => ∃ (kq : Nat) (x89_64 : Bool), v89 = .bool x89_64 ∧ Aside0 (malthouseref02_left.j4 kq a1 x6_62 x89_64 a0_0 a0_1 a0_2 l0_3 = some r) ∧ Aside0 (kq ≤ kj62) ∧ Aside0 (wc.heap[gb101]? = some (.cells #[.int .i64 a0_0, .int .i64 a0_1, .string a0_2, (.slice A0_3 l0_3.length c0_3)] 34 (0, 0))) ∧ Aside0 (Below w.heap.size w wc))
          case first =>
            have H := HC65.out
            clear HC65
            by_cases c66 : (l0_3.length : Int) = x6_62
            · rw [if_pos c66] at H
              obtain ⟨c66b0, c66b1⟩ := qe c66
              clear c66
              (first | rw [c66b0] | (simp only [i64_w, i32_w]; rw [c66b0]) | skip)
              by_cases c67 : a0_1 = 0
              · rw [if_pos c67] at H
                obtain ⟨c67b0, c67b1⟩ := qe c67
                clear c67
                have H' := Aside0.mk H
                clear H
                obtain ⟨_, _, _, _, _, _, _, _⟩ := q4 BK101.out
                go_wp2
                go_meet
                case rel => exact ⟨_, ((a0_2.toList != ([] : List UInt8))), (by first | rfl | (simp; done) | (simp [*]; done) | (cases a0_2.toList <;> rfl) | (simp only [bne]; cases a0_2.toList <;> rfl) | (cases h_ : a0_2.toList <;> simp [h_] <;> done)), H', ⟨by have := HJ2.out; have := HJ9.out; have := HJ58.out; have := HJ62.out; first | omega | exact Nat.le_refl _⟩, qk101, qB⟩
              rw [if_neg c67] at H
              obtain ⟨c67b0, c67b1⟩ := qd c67
              have H' := Aside0.mk H
              clear H
              obtain ⟨_, _, _, _, _, _, _, _⟩ := q4 BK101.out
              go_wp2
              go_meet
              case rel => exact ⟨_, (true), qv, H', ⟨by have := HJ2.out; have := HJ9.out; have := HJ58.out; have := HJ62.out; first | omega | exact Nat.le_refl _⟩, qk101, qB⟩
            rw [if_neg c66] at H
            obtain ⟨c66b0, c66b1⟩ := qd c66
            (first | rw [c66b0] | (simp only [i64_w, i32_w]; rw [c66b0]) | skip)
            have H' := Aside0.mk H
            clear H
            obtain ⟨_, _, _, _, _, _, _, _⟩ := q4 BK101.out
            go_wp2
            go_meet
            case rel => exact ⟨_, (true), qv, H', ⟨by have := HJ2.out; have := HJ9.out; have := HJ58.out; have := HJ62.out; first | omega | exact Nat.le_refl _⟩, qk101, qB⟩
          clear HC65
          obtain ⟨kq, x89_64, rfl, HA, HJ64, BK101, HB⟩ := hcut
          cases kq with
          | zero => exact absurd HA.out (by simp [malthouseref02_left.j4])
          | succ kj64 =>
            have H := HA.out
            clear HA
            simp only [malthouseref02_left.j4] at H
            by_cases c71 : x89_64 = true
            · subst c71
              rw [if_pos rfl] at H
              obtain rfl := Option.some.inj H
              go_wp2
              go_ret
              exact qr
            replace c71 := Bool.eq_false_iff.mpr c71
            subst c71
            rw [if_neg qf] at H
            have H' := Aside0.mk H
            clear H
            go_wp2
            go_loopg [1, 7] kj64 (fun kq v1 v7 w' => ∃ (x1_6 : Int) (x7_6 : Int), v1 = .int .i64 x1_6 ∧ v7 = .int .i64 x7_6 ∧ Aside0 (malthouseref02_left.l0 kq x1_6 x6_62 x7_6 a0_0 a0_1 a0_2 l0_3 = some r) ∧ Aside0 (kq ≤ kj64) ∧ Aside0 (w'.heap[gb101]? = some (.cells #[.int .i64 a0_0, .int .i64 a0_1, .string a0_2, (.slice A0_3 l0_3.length c0_3)] 34 (0, 0))) ∧ Aside0 (Below w.heap.size w w'))
            case atStart => exact ⟨(wrap64 (a1 - 1)), (0), qv, qv, H', ⟨Nat.le_refl _⟩, qk101, qB⟩
            case round =>
              clear H'
              obtain ⟨x1_6, x7_6, rfl, rfl, HA, HK6, BK101, HB⟩ := hrel
              cases gk with
              | zero => exact absurd HA.out (by simp [malthouseref02_left.l0])
              | succ k6 =>
                have H := HA.out
                clear HA
                simp only [malthouseref02_left.l0] at H
                by_cases c72 : x7_6 < x6_62
                · rw [if_pos c72] at H
                  have c72b0 : decide (x7_6 < x6_62) = true := decide_eq_true c72
                  clear c72
                  by_cases c73 : 0 ≤ x7_6
                  · rw [if_pos c73] at H
                    have c73b0 : decide (0 ≤ x7_6) = true := decide_eq_true c73
                    clear c73
                    by_cases c74 : x7_6 < (l0_3.length : Int)
                    · rw [if_pos c74] at H
                      have c74b0 : decide (x7_6 < (l0_3.length : Int)) = true := decide_eq_true c74
                      clear c74
                      replace H := qi H
                      obtain ⟨t104, A75, H⟩ := H
                      by_cases c76 : t104 < 0
                      · rw [if_pos c76] at H
                        have c76b0 : decide (t104 < 0) = true := decide_eq_true c76
                        clear c76
                        obtain rfl := Option.some.inj H
                        obtain ⟨_, _, _, _, _, _, _, _⟩ := q4 BK101.out
                        have p103 : 0 ≤ (x7_6 : Int) := qa
                        have q103 : x7_6 < (l0_3.length : Int) := qa
                        obtain ⟨ad103, A103_3, c103_3, e103, hx103_0, hx103_1, hx103_2, hx103_3, hl103_3, hi103_3⟩ := at_T34 HR0_3.out x7_6 p103 q103
                        cases e103
                        replace hx103_0 := qc HB.out hx103_0
                        replace hx103_1 := qc HB.out hx103_1
                        replace hx103_2 := qc HB.out hx103_2
                        replace hx103_3 := qc HB.out hx103_3
                        have HR103_3 := Aside0.mk hi103_3
                        have HC103_3 := Aside0.mk hl103_3
                        clear hi103_3 hl103_3
                        replace p103 := eq_true p103
                        replace q103 := eq_true q103
                        go_wp2_with (first | ((with_reducible refine gate_callee (f := 108) rfl ?_); refine goesL_ (some 103) rfl rfl Tryd.func108 (by kernel_rfl) rfl #[.agg #[.int .i64 ((rd_T34 l0_3 x7_6).f0), .int .i64 ((rd_T34 l0_3 x7_6).f1), .string ((rd_T34 l0_3 x7_6).f2), .slice A103_3 ((rd_T34 l0_3 x7_6).f3).length c103_3], .int .i64 x1_6] rfl qm ?_; (with_reducible refine (ih k6 (by have := HJ2.out; have := HJ9.out; have := HJ58.out; have := HJ62.out; have := HJ64.out; have := HK6.out; omega) ((rd_T34 l0_3 x7_6).f0) ((rd_T34 l0_3 x7_6).f1) ((rd_T34 l0_3 x7_6).f2) _ _ ((rd_T34 l0_3 x7_6).f3) x1_6 t104 _ ?side1 ?side2 A75.out).mono ?_); (case side1 => exact qC HR103_3.out); (case side2 => exact HC103_3.out); rintro e w78 ⟨rfl, hb⟩; refine ⟨_, rfl, ?_⟩; have n0_ := qn101 (g := gb101) hb; have n1_ := qs hb; clear BK101; clear HB; have BK101 := n0_; have HB := n1_; clear n0_ n1_; (try clear hb)))
                        go_ret
                        exact qr
                      rw [if_neg c76] at H
                      have c76b0 : decide (t104 < 0) = false := decide_eq_false c76
                      clear c76
                      replace H := qi H
                      obtain ⟨t105, A79, H⟩ := H
                      by_cases c80 : t105 = true
                      · subst c80
                        rw [if_pos rfl] at H
                        have H' := Aside0.mk H
                        clear H
                        obtain ⟨_, _, _, _, _, _, _, _⟩ := q4 BK101.out
                        have p103 : 0 ≤ (x7_6 : Int) := qa
                        have q103 : x7_6 < (l0_3.length : Int) := qa
                        obtain ⟨ad103, A103_3, c103_3, e103, hx103_0, hx103_1, hx103_2, hx103_3, hl103_3, hi103_3⟩ := at_T34 HR0_3.out x7_6 p103 q103
                        cases e103
                        replace hx103_0 := qc HB.out hx103_0
                        replace hx103_1 := qc HB.out hx103_1
                        replace hx103_2 := qc HB.out hx103_2
                        replace hx103_3 := qc HB.out hx103_3
                        have HR103_3 := Aside0.mk hi103_3
                        have HC103_3 := Aside0.mk hl103_3
                        clear hi103_3 hl103_3
                        replace p103 := eq_true p103
                        replace q103 := eq_true q103
                        go_wp2_with (first | ((with_reducible refine gate_callee (f := 108) rfl ?_); refine goesL_ (some 103) rfl rfl Tryd.func108 (by kernel_rfl) rfl #[.agg #[.int .i64 ((rd_T34 l0_3 x7_6).f0), .int .i64 ((rd_T34 l0_3 x7_6).f1), .string ((rd_T34 l0_3 x7_6).f2), .slice A103_3 ((rd_T34 l0_3 x7_6).f3).length c103_3], .int .i64 x1_6] rfl qm ?_; (with_reducible refine (ih k6 (by have := HJ2.out; have := HJ9.out; have := HJ58.out; have := HJ62.out; have := HJ64.out; have := HK6.out; omega) ((rd_T34 l0_3 x7_6).f0) ((rd_T34 l0_3 x7_6).f1) ((rd_T34 l0_3 x7_6).f2) _ _ ((rd_T34 l0_3 x7_6).f3) x1_6 t104 _ ?side1 ?side2 A75.out).mono ?_); (case side1 => exact qC HR103_3.out); (case side2 => exact HC103_3.out); rintro e w82 ⟨rfl, hb⟩; refine ⟨_, rfl, ?_⟩; have n0_ := qn101 (g := gb101) hb; have n1_ := qs hb; clear BK101; clear HB; have BK101 := n0_; have HB := n1_; clear n0_ n1_; (try clear hb); obtain ⟨_, _, _, _, _, _, _, _⟩ := q4 BK101.out) | ((with_reducible refine gate_callee (f := 141) rfl ?_); refine goesL_ (some 108) rfl rfl Tryd.func141 (by kernel_rfl) rfl #[.agg #[.int .i64 a0_0, .int .i64 a0_1, .string a0_2, .slice (some ad103) l0_3.length c0_3], .int .i64 x7_6] rfl qm ?_; (with_reducible refine (malthouseref02_Wrapped.calls k6 a0_0 a0_1 a0_2 _ _ l0_3 x7_6 true _ ?side1 ?side2 A79.out).mono ?_); (case side1 => exact qC HR0_3.out); (case side2 => exact HC0_3.out); rintro e w84 ⟨rfl, hb⟩; refine ⟨_, rfl, ?_⟩; have n0_ := qn101 (g := gb101) hb; have n1_ := qs hb; clear BK101; clear HB; have BK101 := n0_; have HB := n1_; clear n0_ n1_; (try clear hb)))
                        go_roundg k6
                        case measure => have := HJ2.out; have := HJ9.out; have := HJ58.out; have := HJ62.out; have := HJ64.out; have := HK6.out; omega
                        case rel => exact ⟨(wrap64 (t104 - 2)), (wrap64 (x7_6 + 1)), qv, qv, H', ⟨by have := HJ2.out; have := HJ9.out; have := HJ58.out; have := HJ62.out; have := HJ64.out; have := HK6.out; omega⟩, qk101, qB⟩
                      replace c80 := Bool.eq_false_iff.mpr c80
                      subst c80
                      rw [if_neg qf] at H
                      have H' := Aside0.mk H
                      clear H
                      obtain ⟨_, _, _, _, _, _, _, _⟩ := q4 BK101.out
                      have p103 : 0 ≤ (x7_6 : Int) := qa
                      have q103 : x7_6 < (l0_3.length : Int) := qa
                      obtain ⟨ad103, A103_3, c103_3, e103, hx103_0, hx103_1, hx103_2, hx103_3, hl103_3, hi103_3⟩ := at_T34 HR0_3.out x7_6 p103 q103
                      cases e103
                      replace hx103_0 := qc HB.out hx103_0
                      replace hx103_1 := qc HB.out hx103_1
                      replace hx103_2 := qc HB.out hx103_2
                      replace hx103_3 := qc HB.out hx103_3
                      have HR103_3 := Aside0.mk hi103_3
                      have HC103_3 := Aside0.mk hl103_3
                      clear hi103_3 hl103_3
                      replace p103 := eq_true p103
                      replace q103 := eq_true q103
                      go_wp2_with (first | ((with_reducible refine gate_callee (f := 108) rfl ?_); refine goesL_ (some 103) rfl rfl Tryd.func108 (by kernel_rfl) rfl #[.agg #[.int .i64 ((rd_T34 l0_3 x7_6).f0), .int .i64 ((rd_T34 l0_3 x7_6).f1), .string ((rd_T34 l0_3 x7_6).f2), .slice A103_3 ((rd_T34 l0_3 x7_6).f3).length c103_3], .int .i64 x1_6] rfl qm ?_; (with_reducible refine (ih k6 (by have := HJ2.out; have := HJ9.out; have := HJ58.out; have := HJ62.out; have := HJ64.out; have := HK6.out; omega) ((rd_T34 l0_3 x7_6).f0) ((rd_T34 l0_3 x7_6).f1) ((rd_T34 l0_3 x7_6).f2) _ _ ((rd_T34 l0_3 x7_6).f3) x1_6 t104 _ ?side1 ?side2 A75.out).mono ?_); (case side1 => exact qC HR103_3.out); (case side2 => exact HC103_3.out); rintro e w86 ⟨rfl, hb⟩; refine ⟨_, rfl, ?_⟩; have n0_ := qn101 (g := gb101) hb; have n1_ := qs hb; clear BK101; clear HB; have BK101 := n0_; have HB := n1_; clear n0_ n1_; (try clear hb); obtain ⟨_, _, _, _, _, _, _, _⟩ := q4 BK101.out) | ((with_reducible refine gate_callee (f := 141) rfl ?_); refine goesL_ (some 108) rfl rfl Tryd.func141 (by kernel_rfl) rfl #[.agg #[.int .i64 a0_0, .int .i64 a0_1, .string a0_2, .slice (some ad103) l0_3.length c0_3], .int .i64 x7_6] rfl qm ?_; (with_reducible refine (malthouseref02_Wrapped.calls k6 a0_0 a0_1 a0_2 _ _ l0_3 x7_6 false _ ?side1 ?side2 A79.out).mono ?_); (case side1 => exact qC HR0_3.out); (case side2 => exact HC0_3.out); rintro e w88 ⟨rfl, hb⟩; refine ⟨_, rfl, ?_⟩; have n0_ := qn101 (g := gb101) hb; have n1_ := qs hb; clear BK101; clear HB; have BK101 := n0_; have HB := n1_; clear n0_ n1_; (try clear hb)))
                      go_roundg k6
                      case measure => have := HJ2.out; have := HJ9.out; have := HJ58.out; have := HJ62.out; have := HJ64.out; have := HK6.out; omega
                      case rel => exact ⟨(t104), (wrap64 (x7_6 + 1)), qv, qv, H', ⟨by have := HJ2.out; have := HJ9.out; have := HJ58.out; have := HJ62.out; have := HJ64.out; have := HK6.out; omega⟩, qk101, qB⟩
                    rw [if_neg c74] at H
                    exact absurd H (by simp)
                  rw [if_neg c73] at H
                  exact absurd H (by simp)
                rw [if_neg c72] at H
                have c72b0 : decide (x7_6 < x6_62) = false := decide_eq_false c72
                clear c72
                obtain rfl := Option.some.inj H
                go_wp2
                go_ret
                exact qr
def malthouseref02_May.f (k : Nat) (a0_0 : Int) (a0_1 : Int) (a0_2 : ByteArray) (l0_3 : List (S34)) : Option (Bool) := (malthouseref02_left.f k a0_0 a0_1 a0_2 l0_3 64).bind fun t102 => (some (decide (t102 ≥ 0)))
set_option maxHeartbeats 8000000 in
set_option maxRecDepth 100000 in
theorem malthouseref02_May.calls (k : Nat) (a0_0 : Int) (a0_1 : Int) (a0_2 : ByteArray) (A0_3 : Option Addr) (c0_3 : Nat) (l0_3 : List (S34)) (r : Bool) (w : World) (hr0_3 : Kd.C k34 w A0_3 l0_3.length l0_3) (hc0_3 : l0_3.length ≤ c0_3) (h : malthouseref02_May.f k a0_0 a0_1 a0_2 l0_3 = some r) :
    Calls Tryd.prog 76 #[.agg #[.int .i64 a0_0, .int .i64 a0_1, .string a0_2, .slice A0_3 l0_3.length c0_3]] w fun e w' => e = .returned (.bool r) ∧ Below w.heap.size w w' := by
  have hu34 := Tryd.underlying34
  have HR0_3 := Aside0.mk hr0_3
  have HC0_3 := Aside0.mk hc0_3
  clear hr0_3 hc0_3
  have HB := Aside0.mk (Below.refl w.heap.size w)
  have H : ((malthouseref02_left.f k a0_0 a0_1 a0_2 l0_3 64).bind fun t102 => (some (decide (t102 ≥ 0)))) = some r := h
  clear h
  replace H := qi H
  obtain ⟨t102, A2, H⟩ := H
  obtain rfl := Option.some.inj H
  go_enter Tryd.func76, Tryd.ntmps76
  go_wp2_with (first | ((with_reducible refine gate_dst (N := 1) rfl ?_); refine box_event ?hg (N := 1) ?hd (cs := #[.int .i64 a0_0, .int .i64 a0_1, .string a0_2, .slice A0_3 l0_3.length c0_3]) (t := 34) ?hr ?_; (case hd => rfl); (case hg => rfl); (case hr => first | (go_simp; done) | (go_simp; rfl)); intro gb101 hg w3 hbox hb; have n0_ := qs hb; have n1_ := Aside0.mk (hbox); have n2_ := Aside0.mk ((by rw [hg]; exact (below_size qb) : w.heap.size ≤ gb101)); have n3_ := Aside0.mk ((by rw [hg]; exact (below_size qb) : w.heap.size ≤ gb101)); clear HB; have HB := n0_; have BK101 := n1_; have GW101 := n2_; have GE101 := n3_; clear n0_ n1_ n2_ n3_; clear hb hbox hg; obtain ⟨_, _, _, _, _, _, _, _⟩ := q4 BK101.out) | ((with_reducible refine gate_callee (f := 108) rfl ?_); refine goesL_ (some 4) rfl rfl Tryd.func108 (by kernel_rfl) rfl #[.agg #[.int .i64 a0_0, .int .i64 a0_1, .string a0_2, .slice A0_3 l0_3.length c0_3], .int .i64 64] rfl qm ?_; (with_reducible refine (malthouseref02_left.calls k a0_0 a0_1 a0_2 _ _ l0_3 64 t102 _ ?side1 ?side2 A2.out).mono ?_); (case side1 => exact qC HR0_3.out); (case side2 => exact HC0_3.out); rintro e w5 ⟨rfl, hb⟩; refine ⟨_, rfl, ?_⟩; have n0_ := qn101 (g := gb101) hb; have n1_ := qs hb; clear BK101; clear HB; have BK101 := n0_; have HB := n1_; clear n0_ n1_; (try clear hb)))
  go_ret
  exact qr
end Go.Proofs.YtiaccdaeomaogaaDoor.F
