/- Texts of one claim, slimmed and merged by slim.py. -/
import Derived.Test.YtiaccdaeomaogaaDoorA4
import Derived.Test.YtiaccdaeomaogaaDoorA5
import Derived.Test.YtiaccdaeomaogaaDoorA6
import Derived.Test.YtiaccdaeomaogaaDoorA7
namespace Go.Proofs.YtiaccdaeomaogaaDoor.F
open Go.RowKit Go.Proofs.YtiaccdaeomaogaaDoorW.PrintWords Go.Proofs.YtiaccdaeomaogaaDoorW.PrintLast Go.Proofs.YtiaccdaeomaogaaDoorW.PrintMore
attribute [local go_sem] max2_int min2_int max_two min_two max_three min_three max_four min_four   -- for this text's walks alone
set_option linter.unusedVariables false
set_option linter.unusedSimpArgs false
mutual
def expr_tokens.j1 : Nat → Int → Int → Int → Int → ByteArray → List (S34) → Option (Int)
  | 0, _, _, _, _, _, _ => none
  | k + 1, x1, x5, x102000, x102001, x102002, x102003 => if x102000 < 0 then (expr_tokens.j2 k x1 true x102000 x102001 x102002 x102003) else (if x102000 > 16 then (expr_tokens.j2 k x1 true x102000 x102001 x102002 x102003) else (if x102001 = 0 then (if x102002.toList = ([] : List UInt8) then (if (x102003.length : Int) = x5 then (expr_tokens.j2 k x1 (decide (x1 < 1)) x102000 x102001 x102002 x102003) else (expr_tokens.j2 k x1 true x102000 x102001 x102002 x102003)) else (expr_tokens.j2 k x1 true x102000 x102001 x102002 x102003)) else (expr_tokens.j2 k x1 true x102000 x102001 x102002 x102003)))
def expr_tokens.j2 : Nat → Int → Bool → Int → Int → ByteArray → List (S34) → Option (Int)
  | 0, _, _, _, _, _, _ => none
  | k + 1, x1, x81, x102000, x102001, x102002, x102003 => if x81 = true then (some (-1)) else (expr_tokens.l0 k x1 1 x102003 (x102003.length : Int) 0 x102000 x102001 x102002 x102003)
def expr_tokens.l0 : Nat → Int → Int → List (S34) → Int → Int → Int → Int → ByteArray → List (S34) → Option (Int)
  | 0, _, _, _, _, _, _, _, _, _ => none
  | k + 1, x1, x6, x83, x84, x85, x102000, x102001, x102002, x102003 => if x85 < x84 then (if 0 ≤ x85 then (if x85 < (x83.length : Int) then ((expr_tokens.f k ((rd_T34 x83 x85).f0) ((rd_T34 x83 x85).f1) ((rd_T34 x83 x85).f2) ((rd_T34 x83 x85).f3) (wrap64 (x1 - x6))).bind fun t106 => (if t106 < 0 then (some (-1)) else ((expr_wrapped.f k x102000 x102001 x102002 x102003 x85).bind fun t107 => (if t107 = true then (if (wrap64 ((wrap64 (x6 + t106)) + 2)) > x1 then (some (-1)) else (expr_tokens.l0 k x1 (wrap64 ((wrap64 (x6 + t106)) + 2)) x83 x84 (wrap64 (x85 + 1)) x102000 x102001 x102002 x102003)) else (if (wrap64 (x6 + t106)) > x1 then (some (-1)) else (expr_tokens.l0 k x1 (wrap64 (x6 + t106)) x83 x84 (wrap64 (x85 + 1)) x102000 x102001 x102002 x102003)))))) else (none)) else (none)) else (some x6)
def expr_tokens.j0 : Nat → Int → Int → Int → Bool → Int → Int → ByteArray → List (S34) → Option (Int)
  | 0, _, _, _, _, _, _, _, _ => none
  | k + 1, x1, x5, x11, x12, x102000, x102001, x102002, x102003 => if x12 = true then (if (x102003.length : Int) > 0 then (some (-1)) else (if x102000 = 0 then (if x102001 < 0 then (some (-1)) else (if x102002.toList = ([] : List UInt8) then (if x102000 = 1 then (if x102001 = 0 then ((lex_Name.f x102002).bind fun t102 => (if t102 = true then (some 1) else (some (-1)))) else (some (-1))) else (some 1)) else (some (-1)))) else (if x102000 = 1 then (if x102001 = 0 then ((lex_Name.f x102002).bind fun t103 => (if t103 = true then (some 1) else (some (-1)))) else (some (-1))) else (some 1)))) else (if x11 = 2 then (expr_tokens.j1 k x1 1 x102000 x102001 x102002 x102003) else (if x11 = 3 then (expr_tokens.j1 k x1 1 x102000 x102001 x102002 x102003) else (expr_tokens.j1 k x1 x5 x102000 x102001 x102002 x102003)))
def expr_tokens.f : Nat → Int → Int → ByteArray → List (S34) → Int → Option (Int)
  | 0, _, _, _, _, _ => none
  | k + 1, a0_0, a0_1, a0_2, l0_3, a1 => if a0_0 = 0 then (expr_tokens.j0 k a1 2 a0_0 (a0_0 == 0) a0_0 a0_1 a0_2 l0_3) else (expr_tokens.j0 k a1 2 a0_0 (a0_0 == 1) a0_0 a0_1 a0_2 l0_3)
end
theorem expr_tokens.mono_l : ∀ k, (∀ y0 y1 y2 y3 y4, LeO (expr_tokens.f k y0 y1 y2 y3 y4) (expr_tokens.f (k + 1) y0 y1 y2 y3 y4)) ∧ (∀ y0 y1 y2 y3 y4 y5, LeO (expr_tokens.j1 k y0 y1 y2 y3 y4 y5) (expr_tokens.j1 (k + 1) y0 y1 y2 y3 y4 y5)) ∧ (∀ y0 y1 y2 y3 y4 y5, LeO (expr_tokens.j2 k y0 y1 y2 y3 y4 y5) (expr_tokens.j2 (k + 1) y0 y1 y2 y3 y4 y5)) ∧ (∀ y0 y1 y2 y3 y4 y5 y6 y7 y8, LeO (expr_tokens.l0 k y0 y1 y2 y3 y4 y5 y6 y7 y8) (expr_tokens.l0 (k + 1) y0 y1 y2 y3 y4 y5 y6 y7 y8)) ∧ (∀ y0 y1 y2 y3 y4 y5 y6 y7, LeO (expr_tokens.j0 k y0 y1 y2 y3 y4 y5 y6 y7) (expr_tokens.j0 (k + 1) y0 y1 y2 y3 y4 y5 y6 y7))
  | 0 => ⟨fun _ _ _ _ _ r h => by simp [expr_tokens.f] at h, fun _ _ _ _ _ _ r h => by simp [expr_tokens.j1] at h, fun _ _ _ _ _ _ r h => by simp [expr_tokens.j2] at h, fun _ _ _ _ _ _ _ _ _ r h => by simp [expr_tokens.l0] at h, fun _ _ _ _ _ _ _ _ r h => by simp [expr_tokens.j0] at h⟩
  | k + 1 => by
    obtain ⟨ih0, ih1, ih2, ih3, ih4⟩ := expr_tokens.mono_l k
    refine ⟨?_, ?_, ?_, ?_, ?_⟩
    · intro y0 y1 y2 y3 y4
      unfold expr_tokens.f
      repeat' first
      | (with_reducible exact ih0 _ _ _ _ _)
      | (with_reducible exact ih1 _ _ _ _ _ _)
      | (with_reducible exact ih2 _ _ _ _ _ _)
      | (with_reducible exact ih3 _ _ _ _ _ _ _ _ _)
      | (with_reducible exact ih4 _ _ _ _ _ _ _ _)
      | (with_reducible exact expr_wrapped.mono _ _ _ _ _ _)
      | (with_reducible exact LeO.refl _)
      | (with_reducible exact LeO.none _)
      | (with_reducible refine LeO.ite ?_ ?_)
      | (with_reducible refine LeO.bind ?_ (fun _ => ?_))
      | exact ih0 _ _ _ _ _
      | exact ih1 _ _ _ _ _ _
      | exact ih2 _ _ _ _ _ _
      | exact ih3 _ _ _ _ _ _ _ _ _
      | exact ih4 _ _ _ _ _ _ _ _
      | exact expr_wrapped.mono _ _ _ _ _ _
      | exact LeO.none _
      | refine LeO.ite ?_ ?_
      | refine LeO.bind ?_ (fun _ => ?_)
    · intro y0 y1 y2 y3 y4 y5
      unfold expr_tokens.j1
      repeat' first
      | (with_reducible exact ih0 _ _ _ _ _)
      | (with_reducible exact ih1 _ _ _ _ _ _)
      | (with_reducible exact ih2 _ _ _ _ _ _)
      | (with_reducible exact ih3 _ _ _ _ _ _ _ _ _)
      | (with_reducible exact ih4 _ _ _ _ _ _ _ _)
      | (with_reducible exact expr_wrapped.mono _ _ _ _ _ _)
      | (with_reducible exact LeO.refl _)
      | (with_reducible exact LeO.none _)
      | (with_reducible refine LeO.ite ?_ ?_)
      | (with_reducible refine LeO.bind ?_ (fun _ => ?_))
      | exact ih0 _ _ _ _ _
      | exact ih1 _ _ _ _ _ _
      | exact ih2 _ _ _ _ _ _
      | exact ih3 _ _ _ _ _ _ _ _ _
      | exact ih4 _ _ _ _ _ _ _ _
      | exact expr_wrapped.mono _ _ _ _ _ _
      | exact LeO.none _
      | refine LeO.ite ?_ ?_
      | refine LeO.bind ?_ (fun _ => ?_)
    · intro y0 y1 y2 y3 y4 y5
      unfold expr_tokens.j2
      repeat' first
      | (with_reducible exact ih0 _ _ _ _ _)
      | (with_reducible exact ih1 _ _ _ _ _ _)
      | (with_reducible exact ih2 _ _ _ _ _ _)
      | (with_reducible exact ih3 _ _ _ _ _ _ _ _ _)
      | (with_reducible exact ih4 _ _ _ _ _ _ _ _)
      | (with_reducible exact expr_wrapped.mono _ _ _ _ _ _)
      | (with_reducible exact LeO.refl _)
      | (with_reducible exact LeO.none _)
      | (with_reducible refine LeO.ite ?_ ?_)
      | (with_reducible refine LeO.bind ?_ (fun _ => ?_))
      | exact ih0 _ _ _ _ _
      | exact ih1 _ _ _ _ _ _
      | exact ih2 _ _ _ _ _ _
      | exact ih3 _ _ _ _ _ _ _ _ _
      | exact ih4 _ _ _ _ _ _ _ _
      | exact expr_wrapped.mono _ _ _ _ _ _
      | exact LeO.none _
      | refine LeO.ite ?_ ?_
      | refine LeO.bind ?_ (fun _ => ?_)
    · intro y0 y1 y2 y3 y4 y5 y6 y7 y8
      unfold expr_tokens.l0
      repeat' first
      | (with_reducible exact ih0 _ _ _ _ _)
      | (with_reducible exact ih1 _ _ _ _ _ _)
      | (with_reducible exact ih2 _ _ _ _ _ _)
      | (with_reducible exact ih3 _ _ _ _ _ _ _ _ _)
      | (with_reducible exact ih4 _ _ _ _ _ _ _ _)
      | (with_reducible exact expr_wrapped.mono _ _ _ _ _ _)
      | (with_reducible exact LeO.refl _)
      | (with_reducible exact LeO.none _)
      | (with_reducible refine LeO.ite ?_ ?_)
      | (with_reducible refine LeO.bind ?_ (fun _ => ?_))
      | exact ih0 _ _ _ _ _
      | exact ih1 _ _ _ _ _ _
      | exact ih2 _ _ _ _ _ _
      | exact ih3 _ _ _ _ _ _ _ _ _
      | exact ih4 _ _ _ _ _ _ _ _
      | exact expr_wrapped.mono _ _ _ _ _ _
      | exact LeO.none _
      | refine LeO.ite ?_ ?_
      | refine LeO.bind ?_ (fun _ => ?_)
    intro y0 y1 y2 y3 y4 y5 y6 y7
    unfold expr_tokens.j0
    repeat' first
    | (with_reducible exact ih0 _ _ _ _ _)
    | (with_reducible exact ih1 _ _ _ _ _ _)
    | (with_reducible exact ih2 _ _ _ _ _ _)
    | (with_reducible exact ih3 _ _ _ _ _ _ _ _ _)
    | (with_reducible exact ih4 _ _ _ _ _ _ _ _)
    | (with_reducible exact expr_wrapped.mono _ _ _ _ _ _)
    | (with_reducible exact LeO.refl _)
    | (with_reducible exact LeO.none _)
    | (with_reducible refine LeO.ite ?_ ?_)
    | (with_reducible refine LeO.bind ?_ (fun _ => ?_))
    | exact ih0 _ _ _ _ _
    | exact ih1 _ _ _ _ _ _
    | exact ih2 _ _ _ _ _ _
    | exact ih3 _ _ _ _ _ _ _ _ _
    | exact ih4 _ _ _ _ _ _ _ _
    | exact expr_wrapped.mono _ _ _ _ _ _
    | exact LeO.none _
    | refine LeO.ite ?_ ?_
    | refine LeO.bind ?_ (fun _ => ?_)
theorem expr_tokens.mono : ∀ a0 a1 a2 a3 a4 k, LeO (expr_tokens.f k a0 a1 a2 a3 a4) (expr_tokens.f (k + 1) a0 a1 a2 a3 a4) := by
  intro a0 a1 a2 a3 a4 k
  obtain ⟨ih0, ih1, ih2, ih3, ih4⟩ := expr_tokens.mono_l k
  exact ih0 a0 a1 a2 a3 a4
set_option maxHeartbeats 8000000 in
set_option maxRecDepth 100000 in
theorem expr_tokens.calls (k : Nat) : ∀ (a0_0 : Int) (a0_1 : Int) (a0_2 : ByteArray) (A0_3 : Option Addr) (c0_3 : Nat) (l0_3 : List (S34)) (a1 : Int) (r : Int) (w : World) (hr0_3 : Kd.C k34 w A0_3 l0_3.length l0_3) (hc0_3 : l0_3.length ≤ c0_3) (h : expr_tokens.f k a0_0 a0_1 a0_2 l0_3 a1 = some r) (hT : UT w),
    Calls Tryd.prog 63 #[.agg #[.int .i64 a0_0, .int .i64 a0_1, .string a0_2, .slice A0_3 l0_3.length c0_3], .int .i64 a1] w fun e w' => e = .returned (.int .i64 r) ∧ Below w.heap.size w w' := by
  induction k using Nat.strongRecOn with
  | _ k ih =>
  intro a0_0 a0_1 a0_2 A0_3 c0_3 l0_3 a1 r w hr0_3 hc0_3 h hT
  have HT0 := Aside0.mk hT
  clear hT
  cases k with
  | zero => exact absurd h (by simp [expr_tokens.f])
  | succ k =>
  simp only [expr_tokens.f] at h
  have hu34 := Tryd.underlying34
  have HR0_3 := Aside0.mk hr0_3
  have HC0_3 := Aside0.mk hc0_3
  clear hr0_3 hc0_3
  have HB := Aside0.mk (Below.refl w.heap.size w)
  have H : (if a0_0 = 0 then (expr_tokens.j0 k a1 2 a0_0 (a0_0 == 0) a0_0 a0_1 a0_2 l0_3) else (expr_tokens.j0 k a1 2 a0_0 (a0_0 == 1) a0_0 a0_1 a0_2 l0_3)) = some r := h
  clear h
  have HC3 := Aside0.mk H
  clear H
  go_enter Tryd.func63, Tryd.ntmps63
  go_upto_block 0 with (first | ((with_reducible refine gate_dst (N := 2) rfl ?_); (try (refine gate_guard (by rfl) ?_; dsimp only)); refine box_event ?hg (N := 2) ?hd (cs := #[.int .i64 a0_0, .int .i64 a0_1, .string a0_2, .slice A0_3 l0_3.length c0_3]) (t := 34) ?hr ?_; (case hd => rfl); (case hg => rfl); (case hr => first | (go_simp; done) | (go_simp; rfl)); intro gb101 hg w4 hbox hb; have n0_ := qs hb; have n1_ := Aside0.mk (hbox); have n2_ := Aside0.mk ((by rw [hg]; exact (below_size qb) : w.heap.size ≤ gb101)); have n3_ := Aside0.mk ((by rw [hg]; exact (below_size qb) : w.heap.size ≤ gb101)); clear HB; have HB := n0_; have BK101 := n1_; have GW101 := n2_; have GE101 := n3_; clear n0_ n1_ n2_ n3_; clear hb hbox hg; obtain ⟨_, _, _, _, _, _, _, _⟩ := q4 BK101.out))
  (try simp only [Act.put, List.setIfInBounds_toArray, List.set_cons_zero, List.set_cons_succ])
  go_cut [5] (fun v5 wc => ∃ (kq : Nat) (x5_2 : Int), v5 = .int .i64 x5_2 ∧ Aside0 (expr_tokens.j1 kq a1 x5_2 a0_0 a0_1 a0_2 l0_3 = some r) ∧ Aside0 (kq ≤ k) ∧ Aside0 (wc.heap[gb101]? = some (.cells #[.int .i64 a0_0, .int .i64 a0_1, .string a0_2, (.slice A0_3 l0_3.length c0_3)] 34 (0, 0))) ∧ Aside0 (Below w.heap.size w wc))
  case first =>
    have H := HC3.out
    clear HC3
    have HC6 := Aside0.mk H
    clear H
    go_upto_if 12 with (fail)
    go_cut [12] (fun v12 wc => ∃ (kq : Nat) (x12_5 : Bool), v12 = .bool x12_5 ∧ Aside0 (expr_tokens.j0 kq a1 2 a0_0 x12_5 a0_0 a0_1 a0_2 l0_3 = some r) ∧ Aside0 (kq ≤ k) ∧ Aside0 (wc.heap[gb101]? = some (.cells #[.int .i64 a0_0, .int .i64 a0_1, .string a0_2, (.slice A0_3 l0_3.length c0_3)] 34 (0, 0))) ∧ Aside0 (Below w.heap.size w wc))
    case first =>
      have H := HC6.out
      clear HC6
      by_cases c7 : a0_0 = 0
      · rw [if_pos c7] at H
        obtain ⟨c7b0, c7b1⟩ := qe c7
        clear c7
        (first | rw [c7b0] | (simp only [i64_w, i32_w]; rw [c7b0]) | skip)
        have H' := Aside0.mk H
        clear H
        go_wp2
        go_meet
        case rel => exact ⟨_, ((a0_0 == 0)), qv, H', ql, qk101, qB⟩
      rw [if_neg c7] at H
      obtain ⟨c7b0, c7b1⟩ := qd c7
      (first | rw [c7b0] | (simp only [i64_w, i32_w]; rw [c7b0]) | skip)
      have H' := Aside0.mk H
      clear H
      go_wp2
      go_meet
      case rel => exact ⟨_, ((a0_0 == 1)), qv, H', ql, qk101, qB⟩
    clear HC6
    obtain ⟨kq, x12_5, rfl, HA, HJ5, BK101, HB⟩ := hcut
    cases kq with
    | zero => exact absurd HA.out (by simp [expr_tokens.j0])
    | succ kj5 =>
      have H := HA.out
      clear HA
      simp only [expr_tokens.j0] at H
      by_cases c8 : x12_5 = true
      · subst c8
        rw [if_pos rfl] at H
        by_cases c9 : (l0_3.length : Int) > 0
        · rw [if_pos c9] at H
          have c9b0 : decide (0 < (l0_3.length : Int)) = true := decide_eq_true c9
          have c9b1 : decide (0 < l0_3.length) = true := decide_eq_true (by omega)
          clear c9
          obtain rfl := Option.some.inj H
          obtain ⟨_, _, _, _, _, _, _, _⟩ := q4 BK101.out
          go_wp2
          go_ret
          exact qr
        rw [if_neg c9] at H
        have c9b0 : decide (0 < (l0_3.length : Int)) = false := decide_eq_false c9
        have c9b1 : decide (0 < l0_3.length) = false := decide_eq_false (by omega)
        clear c9
        by_cases c11 : a0_0 = 0
        · rw [if_pos c11] at H
          obtain ⟨c11b0, c11b1⟩ := qe c11
          clear c11
          by_cases c12 : a0_1 < 0
          · rw [if_pos c12] at H
            have c12b0 : decide (a0_1 < 0) = true := decide_eq_true c12
            clear c12
            obtain rfl := Option.some.inj H
            obtain ⟨_, _, _, _, _, _, _, _⟩ := q4 BK101.out
            go_wp2
            go_ret
            exact qr
          rw [if_neg c12] at H
          have c12b0 : decide (a0_1 < 0) = false := decide_eq_false c12
          clear c12
          by_cases c14 : a0_2.toList = ([] : List UInt8)
          · rw [if_pos c14] at H
            obtain ⟨c14b0, c14b1⟩ := qe c14
            clear c14
            by_cases c15 : a0_0 = 1
            · rw [if_pos c15] at H
              obtain ⟨c15b0, c15b1⟩ := qe c15
              clear c15
              by_cases c16 : a0_1 = 0
              · rw [if_pos c16] at H
                obtain ⟨c16b0, c16b1⟩ := qe c16
                clear c16
                replace H := qi H
                obtain ⟨t102, A17, H⟩ := H
                by_cases c18 : t102 = true
                · subst c18
                  rw [if_pos rfl] at H
                  obtain rfl := Option.some.inj H
                  obtain ⟨_, _, _, _, _, _, _, _⟩ := q4 BK101.out
                  go_wp2_with (first | (go_at_call 91; (with_reducible refine (lex_Name.calls a0_2 true _ A17.out (by first | exact HT0.out | exact UT.below HT0.out qb)).mono ?_); rintro e w20 ⟨rfl, hb⟩; have n0_ := qn101 (g := gb101) hb; have n1_ := qs hb; clear BK101; clear HB; have BK101 := n0_; have HB := n1_; clear n0_ n1_; (try clear hb)))
                  go_ret
                  exact qr
                replace c18 := Bool.eq_false_iff.mpr c18
                subst c18
                rw [if_neg qf] at H
                obtain rfl := Option.some.inj H
                obtain ⟨_, _, _, _, _, _, _, _⟩ := q4 BK101.out
                go_wp2_with (first | (go_at_call 91; (with_reducible refine (lex_Name.calls a0_2 false _ A17.out (by first | exact HT0.out | exact UT.below HT0.out qb)).mono ?_); rintro e w22 ⟨rfl, hb⟩; have n0_ := qn101 (g := gb101) hb; have n1_ := qs hb; clear BK101; clear HB; have BK101 := n0_; have HB := n1_; clear n0_ n1_; (try clear hb)))
                go_ret
                exact qr
              rw [if_neg c16] at H
              obtain ⟨c16b0, c16b1⟩ := qd c16
              obtain rfl := Option.some.inj H
              obtain ⟨_, _, _, _, _, _, _, _⟩ := q4 BK101.out
              go_wp2
              go_ret
              exact qr
            rw [if_neg c15] at H
            obtain ⟨c15b0, c15b1⟩ := qd c15
            obtain rfl := Option.some.inj H
            obtain ⟨_, _, _, _, _, _, _, _⟩ := q4 BK101.out
            go_wp2
            go_ret
            exact qr
          rw [if_neg c14] at H
          obtain ⟨c14b0, c14b1⟩ := qd c14
          obtain rfl := Option.some.inj H
          obtain ⟨_, _, _, _, _, _, _, _⟩ := q4 BK101.out
          go_wp2
          go_ret
          exact qr
        rw [if_neg c11] at H
        obtain ⟨c11b0, c11b1⟩ := qd c11
        by_cases c26 : a0_0 = 1
        · rw [if_pos c26] at H
          obtain ⟨c26b0, c26b1⟩ := qe c26
          clear c26
          by_cases c27 : a0_1 = 0
          · rw [if_pos c27] at H
            obtain ⟨c27b0, c27b1⟩ := qe c27
            clear c27
            replace H := qi H
            obtain ⟨t103, A28, H⟩ := H
            by_cases c29 : t103 = true
            · subst c29
              rw [if_pos rfl] at H
              obtain rfl := Option.some.inj H
              obtain ⟨_, _, _, _, _, _, _, _⟩ := q4 BK101.out
              go_wp2_with (first | (go_at_call 91; (with_reducible refine (lex_Name.calls a0_2 true _ A28.out (by first | exact HT0.out | exact UT.below HT0.out qb)).mono ?_); rintro e w31 ⟨rfl, hb⟩; have n0_ := qn101 (g := gb101) hb; have n1_ := qs hb; clear BK101; clear HB; have BK101 := n0_; have HB := n1_; clear n0_ n1_; (try clear hb)))
              go_ret
              exact qr
            replace c29 := Bool.eq_false_iff.mpr c29
            subst c29
            rw [if_neg qf] at H
            obtain rfl := Option.some.inj H
            obtain ⟨_, _, _, _, _, _, _, _⟩ := q4 BK101.out
            go_wp2_with (first | (go_at_call 91; (with_reducible refine (lex_Name.calls a0_2 false _ A28.out (by first | exact HT0.out | exact UT.below HT0.out qb)).mono ?_); rintro e w33 ⟨rfl, hb⟩; have n0_ := qn101 (g := gb101) hb; have n1_ := qs hb; clear BK101; clear HB; have BK101 := n0_; have HB := n1_; clear n0_ n1_; (try clear hb)))
            go_ret
            exact qr
          rw [if_neg c27] at H
          obtain ⟨c27b0, c27b1⟩ := qd c27
          obtain rfl := Option.some.inj H
          obtain ⟨_, _, _, _, _, _, _, _⟩ := q4 BK101.out
          go_wp2
          go_ret
          exact qr
        rw [if_neg c26] at H
        obtain ⟨c26b0, c26b1⟩ := qd c26
        obtain rfl := Option.some.inj H
        obtain ⟨_, _, _, _, _, _, _, _⟩ := q4 BK101.out
        go_wp2
        go_ret
        exact qr
      replace c8 := Bool.eq_false_iff.mpr c8
      subst c8
      rw [if_neg qf] at H
      by_cases c36 : a0_0 = 2
      · rw [if_pos c36] at H
        obtain ⟨c36b0, c36b1⟩ := qe c36
        clear c36
        have H' := Aside0.mk H
        clear H
        go_wp2
        go_meet
        case rel => exact ⟨_, (1), qv, H', ⟨by have := HJ5.out; first | omega | exact Nat.le_refl _⟩, qk101, qB⟩
      rw [if_neg c36] at H
      obtain ⟨c36b0, c36b1⟩ := qd c36
      by_cases c37 : a0_0 = 3
      · rw [if_pos c37] at H
        obtain ⟨c37b0, c37b1⟩ := qe c37
        clear c37
        have H' := Aside0.mk H
        clear H
        go_wp2
        go_meet
        case rel => exact ⟨_, (1), qv, H', ⟨by have := HJ5.out; first | omega | exact Nat.le_refl _⟩, qk101, qB⟩
      rw [if_neg c37] at H
      obtain ⟨c37b0, c37b1⟩ := qd c37
      have H' := Aside0.mk H
      clear H
      go_wp2
      go_meet
      case rel => exact ⟨_, (2), qv, H', ⟨by have := HJ5.out; first | omega | exact Nat.le_refl _⟩, qk101, qB⟩
  clear HC3
  obtain ⟨kq, x5_2, rfl, HA, HJ2, BK101, HB⟩ := hcut
  cases kq with
  | zero => exact absurd HA.out (by simp [expr_tokens.j1])
  | succ kj2 =>
    have H := HA.out
    clear HA
    simp only [expr_tokens.j1] at H
    have HC38 := Aside0.mk H
    clear H
    go_upto_region 11 with (fail)
    go_cut [81] (fun v81 wc => ∃ (kq : Nat) (x81_37 : Bool), v81 = .bool x81_37 ∧ Aside0 (expr_tokens.j2 kq a1 x81_37 a0_0 a0_1 a0_2 l0_3 = some r) ∧ Aside0 (kq ≤ kj2) ∧ Aside0 (wc.heap[gb101]? = some (.cells #[.int .i64 a0_0, .int .i64 a0_1, .string a0_2, (.slice A0_3 l0_3.length c0_3)] 34 (0, 0))) ∧ Aside0 (Below w.heap.size w wc))
    case first =>
      have H := HC38.out
      clear HC38
      by_cases c39 : a0_0 < 0
      · rw [if_pos c39] at H
        have c39b0 : decide (a0_0 < 0) = true := decide_eq_true c39
        clear c39
        (first | rw [c39b0] | (simp only [i64_w, i32_w]; rw [c39b0]) | skip)
        have H' := Aside0.mk H
        clear H
        obtain ⟨_, _, _, _, _, _, _, _⟩ := q4 BK101.out
        go_wp2
        go_meet
        case rel => exact ⟨_, (true), qv, H', ⟨by have := HJ2.out; first | omega | exact Nat.le_refl _⟩, qk101, qB⟩
      rw [if_neg c39] at H
      have c39b0 : decide (a0_0 < 0) = false := decide_eq_false c39
      clear c39
      (first | rw [c39b0] | (simp only [i64_w, i32_w]; rw [c39b0]) | skip)
      by_cases c41 : a0_0 > 16
      · rw [if_pos c41] at H
        have c41b0 : decide (16 < a0_0) = true := decide_eq_true c41
        clear c41
        have H' := Aside0.mk H
        clear H
        obtain ⟨_, _, _, _, _, _, _, _⟩ := q4 BK101.out
        go_wp2
        go_meet
        case rel => exact ⟨_, (true), qv, H', ⟨by have := HJ2.out; first | omega | exact Nat.le_refl _⟩, qk101, qB⟩
      rw [if_neg c41] at H
      have c41b0 : decide (16 < a0_0) = false := decide_eq_false c41
      clear c41
      by_cases c43 : a0_1 = 0
      · rw [if_pos c43] at H
        obtain ⟨c43b0, c43b1⟩ := qe c43
        clear c43
        by_cases c44 : a0_2.toList = ([] : List UInt8)
        · rw [if_pos c44] at H
          obtain ⟨c44b0, c44b1⟩ := qe c44
          clear c44
          by_cases c45 : (l0_3.length : Int) = x5_2
          · rw [if_pos c45] at H
            obtain ⟨c45b0, c45b1⟩ := qe c45
            clear c45
            have H' := Aside0.mk H
            clear H
            obtain ⟨_, _, _, _, _, _, _, _⟩ := q4 BK101.out
            go_wp2
            go_meet
            case rel => exact ⟨_, (decide (a1 < 1)), qv, H', ⟨by have := HJ2.out; first | omega | exact Nat.le_refl _⟩, qk101, qB⟩
          rw [if_neg c45] at H
          obtain ⟨c45b0, c45b1⟩ := qd c45
          have H' := Aside0.mk H
          clear H
          obtain ⟨_, _, _, _, _, _, _, _⟩ := q4 BK101.out
          go_wp2
          go_meet
          case rel => exact ⟨_, (true), qv, H', ⟨by have := HJ2.out; first | omega | exact Nat.le_refl _⟩, qk101, qB⟩
        rw [if_neg c44] at H
        obtain ⟨c44b0, c44b1⟩ := qd c44
        have H' := Aside0.mk H
        clear H
        obtain ⟨_, _, _, _, _, _, _, _⟩ := q4 BK101.out
        go_wp2
        go_meet
        case rel => exact ⟨_, (true), qv, H', ⟨by have := HJ2.out; first | omega | exact Nat.le_refl _⟩, qk101, qB⟩
      rw [if_neg c43] at H
      obtain ⟨c43b0, c43b1⟩ := qd c43
      have H' := Aside0.mk H
      clear H
      obtain ⟨_, _, _, _, _, _, _, _⟩ := q4 BK101.out
      go_wp2
      go_meet
      case rel => exact ⟨_, (true), qv, H', ⟨by have := HJ2.out; first | omega | exact Nat.le_refl _⟩, qk101, qB⟩
    clear HC38
    obtain ⟨kq, x81_37, rfl, HA, HJ37, BK101, HB⟩ := hcut
    cases kq with
    | zero => exact absurd HA.out (by simp [expr_tokens.j2])
    | succ kj37 =>
      have H := HA.out
      clear HA
      simp only [expr_tokens.j2] at H
      by_cases c50 : x81_37 = true
      · subst c50
        rw [if_pos rfl] at H
        obtain rfl := Option.some.inj H
        go_wp2
        go_ret
        exact qr
      replace c50 := Bool.eq_false_iff.mpr c50
      subst c50
      rw [if_neg qf] at H
      have H' := Aside0.mk H
      clear H
      obtain ⟨_, _, _, _, _, _, _, _⟩ := q4 BK101.out
      go_wp2
      go_loopg [6, 85] kj37 (fun kq v6 v85 w' => ∃ (x6_3 : Int) (x85_3 : Int), v6 = .int .i64 x6_3 ∧ v85 = .int .i64 x85_3 ∧ Aside0 (expr_tokens.l0 kq a1 x6_3 l0_3 (l0_3.length : Int) x85_3 a0_0 a0_1 a0_2 l0_3 = some r) ∧ Aside0 (kq ≤ kj37) ∧ Aside0 (w'.heap[gb101]? = some (.cells #[.int .i64 a0_0, .int .i64 a0_1, .string a0_2, (.slice A0_3 l0_3.length c0_3)] 34 (0, 0))) ∧ Aside0 (Below w.heap.size w w'))
      case atStart => exact ⟨(1), (0), qv, qv, H', ⟨Nat.le_refl _⟩, qk101, qB⟩
      case round =>
        clear H'
        obtain ⟨x6_3, x85_3, rfl, rfl, HA, HK3, BK101, HB⟩ := hrel
        cases gk with
        | zero => exact absurd HA.out (by simp [expr_tokens.l0])
        | succ k3 =>
          have H := HA.out
          clear HA
          simp only [expr_tokens.l0] at H
          by_cases c52 : x85_3 < (l0_3.length : Int)
          · rw [if_pos c52] at H
            have c52b0 : decide (x85_3 < (l0_3.length : Int)) = true := decide_eq_true c52
            clear c52
            by_cases c53 : 0 ≤ x85_3
            · rw [if_pos c53] at H
              have c53b0 : decide (0 ≤ x85_3) = true := decide_eq_true c53
              clear c53
              by_cases c54 : x85_3 < (l0_3.length : Int)
              · rw [if_pos c54] at H
                have c54b0 : decide (x85_3 < (l0_3.length : Int)) = true := decide_eq_true c54
                clear c54
                replace H := qi H
                obtain ⟨t106, A55, H⟩ := H
                by_cases c56 : t106 < 0
                · rw [if_pos c56] at H
                  have c56b0 : decide (t106 < 0) = true := decide_eq_true c56
                  clear c56
                  obtain rfl := Option.some.inj H
                  have p104 : 0 ≤ (x85_3 : Int) := qa
                  have q104 : x85_3 < (l0_3.length : Int) := qa
                  obtain ⟨ad104, A104_3, c104_3, e104, hx104_0, hx104_1, hx104_2, hx104_3, hl104_3, hi104_3⟩ := at_T34 HR0_3.out x85_3 p104 q104
                  cases e104
                  replace hx104_0 := qc HB.out hx104_0
                  replace hx104_1 := qc HB.out hx104_1
                  replace hx104_2 := qc HB.out hx104_2
                  replace hx104_3 := qc HB.out hx104_3
                  have HR104_3 := Aside0.mk hi104_3
                  have HC104_3 := Aside0.mk hl104_3
                  clear hi104_3 hl104_3
                  replace p104 := eq_true p104
                  replace q104 := eq_true q104
                  go_wp2_with (first | ((with_reducible refine gate_dst (N := 8) rfl ?_); (try (refine gate_guard (by rfl) ?_; dsimp only)); refine box_event ?hg (N := 8) ?hd (cs := #[.int .i64 0, .int .i64 0, .string (⟨#[]⟩ : ByteArray), .slice none 0 0]) (t := 34) ?hr ?_; (case hd => rfl); (case hg => rfl); (case hr => first | (go_simp; done) | (go_simp; rfl)); intro gb105 hg w57 hbox hb; have n0_ := qn101 (g := gb101) hb; have n1_ := qs hb; have n2_ := Aside0.mk (hbox); have n3_ := Aside0.mk ((by rw [hg]; exact (below_size qb) : w.heap.size ≤ gb105)); have n4_ := Aside0.mk ((by rw [hg]; exact (below_size qb) : w.heap.size ≤ gb105)); have n5_ := Aside0.mk ((by rw [hg]; exact Nat.ne_of_lt (blk_lt (g := gb101) (o := .cells #[.int .i64 a0_0, .int .i64 a0_1, .string a0_2, .slice (some ad104) l0_3.length c0_3] 34 (0, 0)) (by (with_reducible repeat (first | refine blk_drewN ?_ _ | refine blk_drew ?_ | refine blk_alloc ?_ _)); exact BK101.out)) : gb101 ≠ gb105)); have n6_ := Aside0.mk ((by rw [hg]; exact Nat.ne_of_gt (blk_lt (g := gb101) (o := .cells #[.int .i64 a0_0, .int .i64 a0_1, .string a0_2, .slice (some ad104) l0_3.length c0_3] 34 (0, 0)) (by (with_reducible repeat (first | refine blk_drewN ?_ _ | refine blk_drew ?_ | refine blk_alloc ?_ _)); exact BK101.out)) : gb105 ≠ gb101)); clear BK101; clear HB; have BK101 := n0_; have HB := n1_; have BK105 := n2_; have GW105 := n3_; have GE105 := n4_; have NB101_105 := n5_; have NB105_101 := n6_; clear n0_ n1_ n2_ n3_ n4_ n5_ n6_; clear hb hbox hg; have hnb58 := NB105_101.out; have hnc58 := NB101_105.out; obtain ⟨_, _, _, _, _, _, _, _⟩ := q4 BK105.out) | ((with_reducible refine gate_callee (f := 63) rfl ?_); refine goesL_ (some 94) rfl rfl Tryd.func63 (by kernel_rfl) rfl #[.agg #[.int .i64 ((rd_T34 l0_3 x85_3).f0), .int .i64 ((rd_T34 l0_3 x85_3).f1), .string ((rd_T34 l0_3 x85_3).f2), .slice A104_3 ((rd_T34 l0_3 x85_3).f3).length c104_3], .int .i64 (wrap64 (a1 - x6_3))] rfl qm ?_; (with_reducible refine (ih k3 (by have := HJ2.out; have := HJ37.out; have := HK3.out; omega) ((rd_T34 l0_3 x85_3).f0) ((rd_T34 l0_3 x85_3).f1) ((rd_T34 l0_3 x85_3).f2) _ _ ((rd_T34 l0_3 x85_3).f3) (wrap64 (a1 - x6_3)) t106 _ ?side1 ?side2 A55.out (by first | exact HT0.out | exact UT.below HT0.out qb)).mono ?_); (case side1 => exact Kd.C_below HR104_3.out qb); (case side2 => exact HC104_3.out); rintro e w60 ⟨rfl, hb⟩; refine ⟨_, rfl, ?_⟩; have n0_ := Aside0.mk (blk_below (g := gb101) (o := .cells #[.int .i64 a0_0, .int .i64 a0_1, .string a0_2, .slice (some ad104) l0_3.length c0_3] 34 (0, 0)) (by (with_reducible repeat (first | refine blk_drewN ?_ _ | refine blk_drew ?_ | refine blk_alloc ?_ _)); refine blk_far ?_ NB101_105.out _; (with_reducible repeat (first | refine blk_drewN ?_ _ | refine blk_drew ?_ | refine blk_alloc ?_ _)); refine blk_far ?_ NB101_105.out _; (with_reducible repeat (first | refine blk_drewN ?_ _ | refine blk_drew ?_ | refine blk_alloc ?_ _)); refine blk_far ?_ NB101_105.out _; (with_reducible repeat (first | refine blk_drewN ?_ _ | refine blk_drew ?_ | refine blk_alloc ?_ _)); refine blk_far ?_ NB101_105.out _; (with_reducible repeat (first | refine blk_drewN ?_ _ | refine blk_drew ?_ | refine blk_alloc ?_ _)); exact BK101.out) hb); have n1_ := Aside0.mk (blk_below (g := gb105) (o := .cells #[.int .i64 ((rd_T34 l0_3 x85_3).f0), .int .i64 ((rd_T34 l0_3 x85_3).f1), .string ((rd_T34 l0_3 x85_3).f2), .slice A104_3 ((rd_T34 l0_3 x85_3).f3).length c104_3] 34 (0, 0)) qy105 hb); have n2_ := qs hb; clear BK101; clear BK105; clear HB; have BK101 := n0_; have BK105 := n1_; have HB := n2_; clear n0_ n1_ n2_; (try clear hb)))
                  go_ret
                  exact qr
                rw [if_neg c56] at H
                have c56b0 : decide (t106 < 0) = false := decide_eq_false c56
                clear c56
                replace H := qi H
                obtain ⟨t107, A61, H⟩ := H
                by_cases c62 : t107 = true
                · subst c62
                  rw [if_pos rfl] at H
                  by_cases c63 : (wrap64 ((wrap64 (x6_3 + t106)) + 2)) > a1
                  · rw [if_pos c63] at H
                    have c63b0 : decide (a1 < (wrap64 ((wrap64 (x6_3 + t106)) + 2))) = true := decide_eq_true c63
                    clear c63
                    obtain rfl := Option.some.inj H
                    have p104 : 0 ≤ (x85_3 : Int) := qa
                    have q104 : x85_3 < (l0_3.length : Int) := qa
                    obtain ⟨ad104, A104_3, c104_3, e104, hx104_0, hx104_1, hx104_2, hx104_3, hl104_3, hi104_3⟩ := at_T34 HR0_3.out x85_3 p104 q104
                    cases e104
                    replace hx104_0 := qc HB.out hx104_0
                    replace hx104_1 := qc HB.out hx104_1
                    replace hx104_2 := qc HB.out hx104_2
                    replace hx104_3 := qc HB.out hx104_3
                    have HR104_3 := Aside0.mk hi104_3
                    have HC104_3 := Aside0.mk hl104_3
                    clear hi104_3 hl104_3
                    replace p104 := eq_true p104
                    replace q104 := eq_true q104
                    go_wp2_with (first | ((with_reducible refine gate_dst (N := 8) rfl ?_); (try (refine gate_guard (by rfl) ?_; dsimp only)); refine box_event ?hg (N := 8) ?hd (cs := #[.int .i64 0, .int .i64 0, .string (⟨#[]⟩ : ByteArray), .slice none 0 0]) (t := 34) ?hr ?_; (case hd => rfl); (case hg => rfl); (case hr => first | (go_simp; done) | (go_simp; rfl)); intro gb105 hg w64 hbox hb; have n0_ := qn101 (g := gb101) hb; have n1_ := qs hb; have n2_ := Aside0.mk (hbox); have n3_ := Aside0.mk ((by rw [hg]; exact (below_size qb) : w.heap.size ≤ gb105)); have n4_ := Aside0.mk ((by rw [hg]; exact (below_size qb) : w.heap.size ≤ gb105)); have n5_ := Aside0.mk ((by rw [hg]; exact Nat.ne_of_lt (blk_lt (g := gb101) (o := .cells #[.int .i64 a0_0, .int .i64 a0_1, .string a0_2, .slice (some ad104) l0_3.length c0_3] 34 (0, 0)) (by (with_reducible repeat (first | refine blk_drewN ?_ _ | refine blk_drew ?_ | refine blk_alloc ?_ _)); exact BK101.out)) : gb101 ≠ gb105)); have n6_ := Aside0.mk ((by rw [hg]; exact Nat.ne_of_gt (blk_lt (g := gb101) (o := .cells #[.int .i64 a0_0, .int .i64 a0_1, .string a0_2, .slice (some ad104) l0_3.length c0_3] 34 (0, 0)) (by (with_reducible repeat (first | refine blk_drewN ?_ _ | refine blk_drew ?_ | refine blk_alloc ?_ _)); exact BK101.out)) : gb105 ≠ gb101)); clear BK101; clear HB; have BK101 := n0_; have HB := n1_; have BK105 := n2_; have GW105 := n3_; have GE105 := n4_; have NB101_105 := n5_; have NB105_101 := n6_; clear n0_ n1_ n2_ n3_ n4_ n5_ n6_; clear hb hbox hg; have hnb65 := NB105_101.out; have hnc65 := NB101_105.out; obtain ⟨_, _, _, _, _, _, _, _⟩ := q4 BK105.out) | ((with_reducible refine gate_callee (f := 63) rfl ?_); refine goesL_ (some 94) rfl rfl Tryd.func63 (by kernel_rfl) rfl #[.agg #[.int .i64 ((rd_T34 l0_3 x85_3).f0), .int .i64 ((rd_T34 l0_3 x85_3).f1), .string ((rd_T34 l0_3 x85_3).f2), .slice A104_3 ((rd_T34 l0_3 x85_3).f3).length c104_3], .int .i64 (wrap64 (a1 - x6_3))] rfl qm ?_; (with_reducible refine (ih k3 (by have := HJ2.out; have := HJ37.out; have := HK3.out; omega) ((rd_T34 l0_3 x85_3).f0) ((rd_T34 l0_3 x85_3).f1) ((rd_T34 l0_3 x85_3).f2) _ _ ((rd_T34 l0_3 x85_3).f3) (wrap64 (a1 - x6_3)) t106 _ ?side1 ?side2 A55.out (by first | exact HT0.out | exact UT.below HT0.out qb)).mono ?_); (case side1 => exact Kd.C_below HR104_3.out qb); (case side2 => exact HC104_3.out); rintro e w67 ⟨rfl, hb⟩; refine ⟨_, rfl, ?_⟩; have n0_ := Aside0.mk (blk_below (g := gb101) (o := .cells #[.int .i64 a0_0, .int .i64 a0_1, .string a0_2, .slice (some ad104) l0_3.length c0_3] 34 (0, 0)) (by (with_reducible repeat (first | refine blk_drewN ?_ _ | refine blk_drew ?_ | refine blk_alloc ?_ _)); refine blk_far ?_ NB101_105.out _; (with_reducible repeat (first | refine blk_drewN ?_ _ | refine blk_drew ?_ | refine blk_alloc ?_ _)); refine blk_far ?_ NB101_105.out _; (with_reducible repeat (first | refine blk_drewN ?_ _ | refine blk_drew ?_ | refine blk_alloc ?_ _)); refine blk_far ?_ NB101_105.out _; (with_reducible repeat (first | refine blk_drewN ?_ _ | refine blk_drew ?_ | refine blk_alloc ?_ _)); refine blk_far ?_ NB101_105.out _; (with_reducible repeat (first | refine blk_drewN ?_ _ | refine blk_drew ?_ | refine blk_alloc ?_ _)); exact BK101.out) hb); have n1_ := Aside0.mk (blk_below (g := gb105) (o := .cells #[.int .i64 ((rd_T34 l0_3 x85_3).f0), .int .i64 ((rd_T34 l0_3 x85_3).f1), .string ((rd_T34 l0_3 x85_3).f2), .slice A104_3 ((rd_T34 l0_3 x85_3).f3).length c104_3] 34 (0, 0)) qy105 hb); have n2_ := qs hb; clear BK101; clear BK105; clear HB; have BK101 := n0_; have BK105 := n1_; have HB := n2_; clear n0_ n1_ n2_; (try clear hb); obtain ⟨_, _, _, _, _, _, _, _⟩ := q4 BK101.out) | ((with_reducible refine gate_callee (f := 96) rfl ?_); refine goesL_ (some 102) rfl rfl Tryd.func96 (by kernel_rfl) rfl #[.agg #[.int .i64 a0_0, .int .i64 a0_1, .string a0_2, .slice (some ad104) l0_3.length c0_3], .int .i64 x85_3] rfl qm ?_; (with_reducible refine (expr_wrapped.calls k3 a0_0 a0_1 a0_2 _ _ l0_3 x85_3 true _ ?side1 ?side2 A61.out).mono ?_); (case side1 => exact qC HR0_3.out); (case side2 => exact HC0_3.out); rintro e w69 ⟨rfl, hb⟩; refine ⟨_, rfl, ?_⟩; have n0_ := qn101 (g := gb101) hb; have n1_ := qn105 (g := gb105) hb; have n2_ := qs hb; clear BK101; clear BK105; clear HB; have BK101 := n0_; have BK105 := n1_; have HB := n2_; clear n0_ n1_ n2_; (try clear hb)))
                    go_ret
                    exact qr
                  rw [if_neg c63] at H
                  have c63b0 : decide (a1 < (wrap64 ((wrap64 (x6_3 + t106)) + 2))) = false := decide_eq_false c63
                  clear c63
                  have H' := Aside0.mk H
                  clear H
                  have p104 : 0 ≤ (x85_3 : Int) := qa
                  have q104 : x85_3 < (l0_3.length : Int) := qa
                  obtain ⟨ad104, A104_3, c104_3, e104, hx104_0, hx104_1, hx104_2, hx104_3, hl104_3, hi104_3⟩ := at_T34 HR0_3.out x85_3 p104 q104
                  cases e104
                  replace hx104_0 := qc HB.out hx104_0
                  replace hx104_1 := qc HB.out hx104_1
                  replace hx104_2 := qc HB.out hx104_2
                  replace hx104_3 := qc HB.out hx104_3
                  have HR104_3 := Aside0.mk hi104_3
                  have HC104_3 := Aside0.mk hl104_3
                  clear hi104_3 hl104_3
                  replace p104 := eq_true p104
                  replace q104 := eq_true q104
                  go_wp2_with (first | ((with_reducible refine gate_dst (N := 8) rfl ?_); (try (refine gate_guard (by rfl) ?_; dsimp only)); refine box_event ?hg (N := 8) ?hd (cs := #[.int .i64 0, .int .i64 0, .string (⟨#[]⟩ : ByteArray), .slice none 0 0]) (t := 34) ?hr ?_; (case hd => rfl); (case hg => rfl); (case hr => first | (go_simp; done) | (go_simp; rfl)); intro gb105 hg w70 hbox hb; have n0_ := qn101 (g := gb101) hb; have n1_ := qs hb; have n2_ := Aside0.mk (hbox); have n3_ := Aside0.mk ((by rw [hg]; exact (below_size qb) : w.heap.size ≤ gb105)); have n4_ := Aside0.mk ((by rw [hg]; exact (below_size qb) : w.heap.size ≤ gb105)); have n5_ := Aside0.mk ((by rw [hg]; exact Nat.ne_of_lt (blk_lt (g := gb101) (o := .cells #[.int .i64 a0_0, .int .i64 a0_1, .string a0_2, .slice (some ad104) l0_3.length c0_3] 34 (0, 0)) (by (with_reducible repeat (first | refine blk_drewN ?_ _ | refine blk_drew ?_ | refine blk_alloc ?_ _)); exact BK101.out)) : gb101 ≠ gb105)); have n6_ := Aside0.mk ((by rw [hg]; exact Nat.ne_of_gt (blk_lt (g := gb101) (o := .cells #[.int .i64 a0_0, .int .i64 a0_1, .string a0_2, .slice (some ad104) l0_3.length c0_3] 34 (0, 0)) (by (with_reducible repeat (first | refine blk_drewN ?_ _ | refine blk_drew ?_ | refine blk_alloc ?_ _)); exact BK101.out)) : gb105 ≠ gb101)); clear BK101; clear HB; have BK101 := n0_; have HB := n1_; have BK105 := n2_; have GW105 := n3_; have GE105 := n4_; have NB101_105 := n5_; have NB105_101 := n6_; clear n0_ n1_ n2_ n3_ n4_ n5_ n6_; clear hb hbox hg; have hnb71 := NB105_101.out; have hnc71 := NB101_105.out; obtain ⟨_, _, _, _, _, _, _, _⟩ := q4 BK105.out) | ((with_reducible refine gate_callee (f := 63) rfl ?_); refine goesL_ (some 94) rfl rfl Tryd.func63 (by kernel_rfl) rfl #[.agg #[.int .i64 ((rd_T34 l0_3 x85_3).f0), .int .i64 ((rd_T34 l0_3 x85_3).f1), .string ((rd_T34 l0_3 x85_3).f2), .slice A104_3 ((rd_T34 l0_3 x85_3).f3).length c104_3], .int .i64 (wrap64 (a1 - x6_3))] rfl qm ?_; (with_reducible refine (ih k3 (by have := HJ2.out; have := HJ37.out; have := HK3.out; omega) ((rd_T34 l0_3 x85_3).f0) ((rd_T34 l0_3 x85_3).f1) ((rd_T34 l0_3 x85_3).f2) _ _ ((rd_T34 l0_3 x85_3).f3) (wrap64 (a1 - x6_3)) t106 _ ?side1 ?side2 A55.out (by first | exact HT0.out | exact UT.below HT0.out qb)).mono ?_); (case side1 => exact Kd.C_below HR104_3.out qb); (case side2 => exact HC104_3.out); rintro e w73 ⟨rfl, hb⟩; refine ⟨_, rfl, ?_⟩; have n0_ := Aside0.mk (blk_below (g := gb101) (o := .cells #[.int .i64 a0_0, .int .i64 a0_1, .string a0_2, .slice (some ad104) l0_3.length c0_3] 34 (0, 0)) (by (with_reducible repeat (first | refine blk_drewN ?_ _ | refine blk_drew ?_ | refine blk_alloc ?_ _)); refine blk_far ?_ NB101_105.out _; (with_reducible repeat (first | refine blk_drewN ?_ _ | refine blk_drew ?_ | refine blk_alloc ?_ _)); refine blk_far ?_ NB101_105.out _; (with_reducible repeat (first | refine blk_drewN ?_ _ | refine blk_drew ?_ | refine blk_alloc ?_ _)); refine blk_far ?_ NB101_105.out _; (with_reducible repeat (first | refine blk_drewN ?_ _ | refine blk_drew ?_ | refine blk_alloc ?_ _)); refine blk_far ?_ NB101_105.out _; (with_reducible repeat (first | refine blk_drewN ?_ _ | refine blk_drew ?_ | refine blk_alloc ?_ _)); exact BK101.out) hb); have n1_ := Aside0.mk (blk_below (g := gb105) (o := .cells #[.int .i64 ((rd_T34 l0_3 x85_3).f0), .int .i64 ((rd_T34 l0_3 x85_3).f1), .string ((rd_T34 l0_3 x85_3).f2), .slice A104_3 ((rd_T34 l0_3 x85_3).f3).length c104_3] 34 (0, 0)) qy105 hb); have n2_ := qs hb; clear BK101; clear BK105; clear HB; have BK101 := n0_; have BK105 := n1_; have HB := n2_; clear n0_ n1_ n2_; (try clear hb); obtain ⟨_, _, _, _, _, _, _, _⟩ := q4 BK101.out) | ((with_reducible refine gate_callee (f := 96) rfl ?_); refine goesL_ (some 102) rfl rfl Tryd.func96 (by kernel_rfl) rfl #[.agg #[.int .i64 a0_0, .int .i64 a0_1, .string a0_2, .slice (some ad104) l0_3.length c0_3], .int .i64 x85_3] rfl qm ?_; (with_reducible refine (expr_wrapped.calls k3 a0_0 a0_1 a0_2 _ _ l0_3 x85_3 true _ ?side1 ?side2 A61.out).mono ?_); (case side1 => exact qC HR0_3.out); (case side2 => exact HC0_3.out); rintro e w75 ⟨rfl, hb⟩; refine ⟨_, rfl, ?_⟩; have n0_ := qn101 (g := gb101) hb; have n1_ := qn105 (g := gb105) hb; have n2_ := qs hb; clear BK101; clear BK105; clear HB; have BK101 := n0_; have BK105 := n1_; have HB := n2_; clear n0_ n1_ n2_; (try clear hb)))
                  go_roundg k3
                  case measure => have := HJ2.out; have := HJ37.out; have := HK3.out; omega
                  case rel => exact ⟨(wrap64 ((wrap64 (x6_3 + t106)) + 2)), (wrap64 (x85_3 + 1)), qv, qv, H', ⟨by have := HJ2.out; have := HJ37.out; have := HK3.out; omega⟩, qk101, qB⟩
                replace c62 := Bool.eq_false_iff.mpr c62
                subst c62
                rw [if_neg qf] at H
                by_cases c76 : (wrap64 (x6_3 + t106)) > a1
                · rw [if_pos c76] at H
                  have c76b0 : decide (a1 < (wrap64 (x6_3 + t106))) = true := decide_eq_true c76
                  clear c76
                  obtain rfl := Option.some.inj H
                  have p104 : 0 ≤ (x85_3 : Int) := qa
                  have q104 : x85_3 < (l0_3.length : Int) := qa
                  obtain ⟨ad104, A104_3, c104_3, e104, hx104_0, hx104_1, hx104_2, hx104_3, hl104_3, hi104_3⟩ := at_T34 HR0_3.out x85_3 p104 q104
                  cases e104
                  replace hx104_0 := qc HB.out hx104_0
                  replace hx104_1 := qc HB.out hx104_1
                  replace hx104_2 := qc HB.out hx104_2
                  replace hx104_3 := qc HB.out hx104_3
                  have HR104_3 := Aside0.mk hi104_3
                  have HC104_3 := Aside0.mk hl104_3
                  clear hi104_3 hl104_3
                  replace p104 := eq_true p104
                  replace q104 := eq_true q104
                  go_wp2_with (first | ((with_reducible refine gate_dst (N := 8) rfl ?_); (try (refine gate_guard (by rfl) ?_; dsimp only)); refine box_event ?hg (N := 8) ?hd (cs := #[.int .i64 0, .int .i64 0, .string (⟨#[]⟩ : ByteArray), .slice none 0 0]) (t := 34) ?hr ?_; (case hd => rfl); (case hg => rfl); (case hr => first | (go_simp; done) | (go_simp; rfl)); intro gb105 hg w77 hbox hb; have n0_ := qn101 (g := gb101) hb; have n1_ := qs hb; have n2_ := Aside0.mk (hbox); have n3_ := Aside0.mk ((by rw [hg]; exact (below_size qb) : w.heap.size ≤ gb105)); have n4_ := Aside0.mk ((by rw [hg]; exact (below_size qb) : w.heap.size ≤ gb105)); have n5_ := Aside0.mk ((by rw [hg]; exact Nat.ne_of_lt (blk_lt (g := gb101) (o := .cells #[.int .i64 a0_0, .int .i64 a0_1, .string a0_2, .slice (some ad104) l0_3.length c0_3] 34 (0, 0)) (by (with_reducible repeat (first | refine blk_drewN ?_ _ | refine blk_drew ?_ | refine blk_alloc ?_ _)); exact BK101.out)) : gb101 ≠ gb105)); have n6_ := Aside0.mk ((by rw [hg]; exact Nat.ne_of_gt (blk_lt (g := gb101) (o := .cells #[.int .i64 a0_0, .int .i64 a0_1, .string a0_2, .slice (some ad104) l0_3.length c0_3] 34 (0, 0)) (by (with_reducible repeat (first | refine blk_drewN ?_ _ | refine blk_drew ?_ | refine blk_alloc ?_ _)); exact BK101.out)) : gb105 ≠ gb101)); clear BK101; clear HB; have BK101 := n0_; have HB := n1_; have BK105 := n2_; have GW105 := n3_; have GE105 := n4_; have NB101_105 := n5_; have NB105_101 := n6_; clear n0_ n1_ n2_ n3_ n4_ n5_ n6_; clear hb hbox hg; have hnb78 := NB105_101.out; have hnc78 := NB101_105.out; obtain ⟨_, _, _, _, _, _, _, _⟩ := q4 BK105.out) | ((with_reducible refine gate_callee (f := 63) rfl ?_); refine goesL_ (some 94) rfl rfl Tryd.func63 (by kernel_rfl) rfl #[.agg #[.int .i64 ((rd_T34 l0_3 x85_3).f0), .int .i64 ((rd_T34 l0_3 x85_3).f1), .string ((rd_T34 l0_3 x85_3).f2), .slice A104_3 ((rd_T34 l0_3 x85_3).f3).length c104_3], .int .i64 (wrap64 (a1 - x6_3))] rfl qm ?_; (with_reducible refine (ih k3 (by have := HJ2.out; have := HJ37.out; have := HK3.out; omega) ((rd_T34 l0_3 x85_3).f0) ((rd_T34 l0_3 x85_3).f1) ((rd_T34 l0_3 x85_3).f2) _ _ ((rd_T34 l0_3 x85_3).f3) (wrap64 (a1 - x6_3)) t106 _ ?side1 ?side2 A55.out (by first | exact HT0.out | exact UT.below HT0.out qb)).mono ?_); (case side1 => exact Kd.C_below HR104_3.out qb); (case side2 => exact HC104_3.out); rintro e w80 ⟨rfl, hb⟩; refine ⟨_, rfl, ?_⟩; have n0_ := Aside0.mk (blk_below (g := gb101) (o := .cells #[.int .i64 a0_0, .int .i64 a0_1, .string a0_2, .slice (some ad104) l0_3.length c0_3] 34 (0, 0)) (by (with_reducible repeat (first | refine blk_drewN ?_ _ | refine blk_drew ?_ | refine blk_alloc ?_ _)); refine blk_far ?_ NB101_105.out _; (with_reducible repeat (first | refine blk_drewN ?_ _ | refine blk_drew ?_ | refine blk_alloc ?_ _)); refine blk_far ?_ NB101_105.out _; (with_reducible repeat (first | refine blk_drewN ?_ _ | refine blk_drew ?_ | refine blk_alloc ?_ _)); refine blk_far ?_ NB101_105.out _; (with_reducible repeat (first | refine blk_drewN ?_ _ | refine blk_drew ?_ | refine blk_alloc ?_ _)); refine blk_far ?_ NB101_105.out _; (with_reducible repeat (first | refine blk_drewN ?_ _ | refine blk_drew ?_ | refine blk_alloc ?_ _)); exact BK101.out) hb); have n1_ := Aside0.mk (blk_below (g := gb105) (o := .cells #[.int .i64 ((rd_T34 l0_3 x85_3).f0), .int .i64 ((rd_T34 l0_3 x85_3).f1), .string ((rd_T34 l0_3 x85_3).f2), .slice A104_3 ((rd_T34 l0_3 x85_3).f3).length c104_3] 34 (0, 0)) qy105 hb); have n2_ := qs hb; clear BK101; clear BK105; clear HB; have BK101 := n0_; have BK105 := n1_; have HB := n2_; clear n0_ n1_ n2_; (try clear hb); obtain ⟨_, _, _, _, _, _, _, _⟩ := q4 BK101.out) | ((with_reducible refine gate_callee (f := 96) rfl ?_); refine goesL_ (some 102) rfl rfl Tryd.func96 (by kernel_rfl) rfl #[.agg #[.int .i64 a0_0, .int .i64 a0_1, .string a0_2, .slice (some ad104) l0_3.length c0_3], .int .i64 x85_3] rfl qm ?_; (with_reducible refine (expr_wrapped.calls k3 a0_0 a0_1 a0_2 _ _ l0_3 x85_3 false _ ?side1 ?side2 A61.out).mono ?_); (case side1 => exact qC HR0_3.out); (case side2 => exact HC0_3.out); rintro e w82 ⟨rfl, hb⟩; refine ⟨_, rfl, ?_⟩; have n0_ := qn101 (g := gb101) hb; have n1_ := qn105 (g := gb105) hb; have n2_ := qs hb; clear BK101; clear BK105; clear HB; have BK101 := n0_; have BK105 := n1_; have HB := n2_; clear n0_ n1_ n2_; (try clear hb)))
                  go_ret
                  exact qr
                rw [if_neg c76] at H
                have c76b0 : decide (a1 < (wrap64 (x6_3 + t106))) = false := decide_eq_false c76
                clear c76
                have H' := Aside0.mk H
                clear H
                have p104 : 0 ≤ (x85_3 : Int) := qa
                have q104 : x85_3 < (l0_3.length : Int) := qa
                obtain ⟨ad104, A104_3, c104_3, e104, hx104_0, hx104_1, hx104_2, hx104_3, hl104_3, hi104_3⟩ := at_T34 HR0_3.out x85_3 p104 q104
                cases e104
                replace hx104_0 := qc HB.out hx104_0
                replace hx104_1 := qc HB.out hx104_1
                replace hx104_2 := qc HB.out hx104_2
                replace hx104_3 := qc HB.out hx104_3
                have HR104_3 := Aside0.mk hi104_3
                have HC104_3 := Aside0.mk hl104_3
                clear hi104_3 hl104_3
                replace p104 := eq_true p104
                replace q104 := eq_true q104
                go_wp2_with (first | ((with_reducible refine gate_dst (N := 8) rfl ?_); (try (refine gate_guard (by rfl) ?_; dsimp only)); refine box_event ?hg (N := 8) ?hd (cs := #[.int .i64 0, .int .i64 0, .string (⟨#[]⟩ : ByteArray), .slice none 0 0]) (t := 34) ?hr ?_; (case hd => rfl); (case hg => rfl); (case hr => first | (go_simp; done) | (go_simp; rfl)); intro gb105 hg w83 hbox hb; have n0_ := qn101 (g := gb101) hb; have n1_ := qs hb; have n2_ := Aside0.mk (hbox); have n3_ := Aside0.mk ((by rw [hg]; exact (below_size qb) : w.heap.size ≤ gb105)); have n4_ := Aside0.mk ((by rw [hg]; exact (below_size qb) : w.heap.size ≤ gb105)); have n5_ := Aside0.mk ((by rw [hg]; exact Nat.ne_of_lt (blk_lt (g := gb101) (o := .cells #[.int .i64 a0_0, .int .i64 a0_1, .string a0_2, .slice (some ad104) l0_3.length c0_3] 34 (0, 0)) (by (with_reducible repeat (first | refine blk_drewN ?_ _ | refine blk_drew ?_ | refine blk_alloc ?_ _)); exact BK101.out)) : gb101 ≠ gb105)); have n6_ := Aside0.mk ((by rw [hg]; exact Nat.ne_of_gt (blk_lt (g := gb101) (o := .cells #[.int .i64 a0_0, .int .i64 a0_1, .string a0_2, .slice (some ad104) l0_3.length c0_3] 34 (0, 0)) (by (with_reducible repeat (first | refine blk_drewN ?_ _ | refine blk_drew ?_ | refine blk_alloc ?_ _)); exact BK101.out)) : gb105 ≠ gb101)); clear BK101; clear HB; have BK101 := n0_; have HB := n1_; have BK105 := n2_; have GW105 := n3_; have GE105 := n4_; have NB101_105 := n5_; have NB105_101 := n6_; clear n0_ n1_ n2_ n3_ n4_ n5_ n6_; clear hb hbox hg; have hnb84 := NB105_101.out; have hnc84 := NB101_105.out; obtain ⟨_, _, _, _, _, _, _, _⟩ := q4 BK105.out) | ((with_reducible refine gate_callee (f := 63) rfl ?_); refine goesL_ (some 94) rfl rfl Tryd.func63 (by kernel_rfl) rfl #[.agg #[.int .i64 ((rd_T34 l0_3 x85_3).f0), .int .i64 ((rd_T34 l0_3 x85_3).f1), .string ((rd_T34 l0_3 x85_3).f2), .slice A104_3 ((rd_T34 l0_3 x85_3).f3).length c104_3], .int .i64 (wrap64 (a1 - x6_3))] rfl qm ?_; (with_reducible refine (ih k3 (by have := HJ2.out; have := HJ37.out; have := HK3.out; omega) ((rd_T34 l0_3 x85_3).f0) ((rd_T34 l0_3 x85_3).f1) ((rd_T34 l0_3 x85_3).f2) _ _ ((rd_T34 l0_3 x85_3).f3) (wrap64 (a1 - x6_3)) t106 _ ?side1 ?side2 A55.out (by first | exact HT0.out | exact UT.below HT0.out qb)).mono ?_); (case side1 => exact Kd.C_below HR104_3.out qb); (case side2 => exact HC104_3.out); rintro e w86 ⟨rfl, hb⟩; refine ⟨_, rfl, ?_⟩; have n0_ := Aside0.mk (blk_below (g := gb101) (o := .cells #[.int .i64 a0_0, .int .i64 a0_1, .string a0_2, .slice (some ad104) l0_3.length c0_3] 34 (0, 0)) (by (with_reducible repeat (first | refine blk_drewN ?_ _ | refine blk_drew ?_ | refine blk_alloc ?_ _)); refine blk_far ?_ NB101_105.out _; (with_reducible repeat (first | refine blk_drewN ?_ _ | refine blk_drew ?_ | refine blk_alloc ?_ _)); refine blk_far ?_ NB101_105.out _; (with_reducible repeat (first | refine blk_drewN ?_ _ | refine blk_drew ?_ | refine blk_alloc ?_ _)); refine blk_far ?_ NB101_105.out _; (with_reducible repeat (first | refine blk_drewN ?_ _ | refine blk_drew ?_ | refine blk_alloc ?_ _)); refine blk_far ?_ NB101_105.out _; (with_reducible repeat (first | refine blk_drewN ?_ _ | refine blk_drew ?_ | refine blk_alloc ?_ _)); exact BK101.out) hb); have n1_ := Aside0.mk (blk_below (g := gb105) (o := .cells #[.int .i64 ((rd_T34 l0_3 x85_3).f0), .int .i64 ((rd_T34 l0_3 x85_3).f1), .string ((rd_T34 l0_3 x85_3).f2), .slice A104_3 ((rd_T34 l0_3 x85_3).f3).length c104_3] 34 (0, 0)) qy105 hb); have n2_ := qs hb; clear BK101; clear BK105; clear HB; have BK101 := n0_; have BK105 := n1_; have HB := n2_; clear n0_ n1_ n2_; (try clear hb); obtain ⟨_, _, _, _, _, _, _, _⟩ := q4 BK101.out) | ((with_reducible refine gate_callee (f := 96) rfl ?_); refine goesL_ (some 102) rfl rfl Tryd.func96 (by kernel_rfl) rfl #[.agg #[.int .i64 a0_0, .int .i64 a0_1, .string a0_2, .slice (some ad104) l0_3.length c0_3], .int .i64 x85_3] rfl qm ?_; (with_reducible refine (expr_wrapped.calls k3 a0_0 a0_1 a0_2 _ _ l0_3 x85_3 false _ ?side1 ?side2 A61.out).mono ?_); (case side1 => exact qC HR0_3.out); (case side2 => exact HC0_3.out); rintro e w88 ⟨rfl, hb⟩; refine ⟨_, rfl, ?_⟩; have n0_ := qn101 (g := gb101) hb; have n1_ := qn105 (g := gb105) hb; have n2_ := qs hb; clear BK101; clear BK105; clear HB; have BK101 := n0_; have BK105 := n1_; have HB := n2_; clear n0_ n1_ n2_; (try clear hb)))
                go_roundg k3
                case measure => have := HJ2.out; have := HJ37.out; have := HK3.out; omega
                case rel => exact ⟨(wrap64 (x6_3 + t106)), (wrap64 (x85_3 + 1)), qv, qv, H', ⟨by have := HJ2.out; have := HJ37.out; have := HK3.out; omega⟩, qk101, qB⟩
              rw [if_neg c54] at H
              exact absurd H (by simp)
            rw [if_neg c53] at H
            exact absurd H (by simp)
          rw [if_neg c52] at H
          have c52b0 : decide (x85_3 < (l0_3.length : Int)) = false := decide_eq_false c52
          clear c52
          obtain rfl := Option.some.inj H
          go_wp2
          go_ret
          exact qr
end Go.Proofs.YtiaccdaeomaogaaDoor.F
