/- Texts of one claim, slimmed and merged by slim.py. -/
import Derived.Sort.OwnSorted
import Derived.Sort.Grow
import Derived.Lib.OwnBridge
import Derived.Lib.LazyBuf
import Derived.Test.YtiaccdaeomaogaaDoorRL2
import Derived.Test.YtiaccdaeomaogaaDoorRL3
namespace Go.Proofs.YtiaccdaeomaogaaDoor.F
open Go.RowKit Go.Proofs.YtiaccdaeomaogaaDoorW.PrintWords Go.Proofs.YtiaccdaeomaogaaDoorW.PrintLast Go.Proofs.YtiaccdaeomaogaaDoorW.PrintMore
attribute [local go_sem] max2_int min2_int max_two min_two max_three min_three max_four min_four   -- for this text's walks alone
set_option linter.unusedVariables false
set_option linter.unusedSimpArgs false
mutual
def expr_tokens.j1 : Nat → Int → Int → Int → Int → ByteArray → List (S34) → Option (Int)
  | 0, _, _, _, _, _, _ => none
  | k + 1, x1, x5, x102000, x102001, x102002, x102003 => if x102000 < 0 then (expr_tokens.j2 k x1 true x102000 x102001 x102002 x102003) else (if x102000 > 16 then (expr_tokens.j2 k x1 true x102000 x102001 x102002 x102003) else (if x102001 = 0 then (if x102002.toList = ([] : List UInt8) then (if (x102003.length : Int) = x5 then (expr_tokens.j2 k x1 (decide (x1 < 1)) x102000 x102001 x102002 x102003) else (expr_tokens.j2 k x1 true x102000 x102001 x102002 x102003)) else (expr_tokens.j2 k x1 true x102000 x102001 x102002 x102003)) else (expr_tokens.j2 k x1 true x102000 x102001 x102002 x102003)))
def expr_tokens.j2 : Nat → Int → Bool → Int → Int → ByteArray → List (S34) → Option (Int)
  | 0, _, _, _, _, _, _ => none
  | k + 1, x1, x81, x102000, x102001, x102002, x102003 => if x81 = true then (some (-1)) else (expr_tokens.l0 k x1 1 x102003 (x102003.length : Int) 0 x102000 x102001 x102002 x102003)
def expr_tokens.l0 : Nat → Int → Int → List (S34) → Int → Int → Int → Int → ByteArray → List (S34) → Option (Int)
  | 0, _, _, _, _, _, _, _, _, _ => none
  | k + 1, x1, x6, x83, x84, x85, x102000, x102001, x102002, x102003 => if x85 < x84 then (if 0 ≤ x85 then (if x85 < (x83.length : Int) then ((expr_tokens.f k ((rd_T34 x83 x85).f0) ((rd_T34 x83 x85).f1) ((rd_T34 x83 x85).f2) ((rd_T34 x83 x85).f3) (wrap64 (x1 - x6))).bind fun t106 => (if t106 < 0 then (some (-1)) else ((expr_wrapped.f k x102000 x102001 x102002 x102003 x85).bind fun t107 => (if t107 = true then (if (wrap64 ((wrap64 (x6 + t106)) + 2)) > x1 then (some (-1)) else (expr_tokens.l0 k x1 (wrap64 ((wrap64 (x6 + t106)) + 2)) x83 x84 (wrap64 (x85 + 1)) x102000 x102001 x102002 x102003)) else (if (wrap64 (x6 + t106)) > x1 then (some (-1)) else (expr_tokens.l0 k x1 (wrap64 (x6 + t106)) x83 x84 (wrap64 (x85 + 1)) x102000 x102001 x102002 x102003)))))) else (none)) else (none)) else (some x6)
def expr_tokens.j0 : Nat → Int → Int → Int → Bool → Int → Int → ByteArray → List (S34) → Option (Int)
  | 0, _, _, _, _, _, _, _, _ => none
  | k + 1, x1, x5, x11, x12, x102000, x102001, x102002, x102003 => if x12 = true then (if (x102003.length : Int) > 0 then (some (-1)) else (if x102000 = 0 then (if x102001 < 0 then (some (-1)) else (if x102002.toList = ([] : List UInt8) then (if x102000 = 1 then (if x102001 = 0 then ((lex_Name.f x102002).bind fun t102 => (if t102 = true then (some 1) else (some (-1)))) else (some (-1))) else (some 1)) else (some (-1)))) else (if x102000 = 1 then (if x102001 = 0 then ((lex_Name.f x102002).bind fun t103 => (if t103 = true then (some 1) else (some (-1)))) else (some (-1))) else (some 1)))) else (if x11 = 2 then (expr_tokens.j1 k x1 1 x102000 x102001 x102002 x102003) else (if x11 = 3 then (expr_tokens.j1 k x1 1 x102000 x102001 x102002 x102003) else (expr_tokens.j1 k x1 x5 x102000 x102001 x102002 x102003)))
def expr_tokens.f : Nat → Int → Int → ByteArray → List (S34) → Int → Option (Int)
  | 0, _, _, _, _, _ => none
  | k + 1, a0_0, a0_1, a0_2, l0_3, a1 => if a0_0 = 0 then (expr_tokens.j0 k a1 2 a0_0 (a0_0 == 0) a0_0 a0_1 a0_2 l0_3) else (expr_tokens.j0 k a1 2 a0_0 (a0_0 == 1) a0_0 a0_1 a0_2 l0_3)
end
theorem expr_tokens.mono_l : ∀ k, (∀ y0 y1 y2 y3 y4, LeO (expr_tokens.f k y0 y1 y2 y3 y4) (expr_tokens.f (k + 1) y0 y1 y2 y3 y4)) ∧ (∀ y0 y1 y2 y3 y4 y5, LeO (expr_tokens.j1 k y0 y1 y2 y3 y4 y5) (expr_tokens.j1 (k + 1) y0 y1 y2 y3 y4 y5)) ∧ (∀ y0 y1 y2 y3 y4 y5, LeO (expr_tokens.j2 k y0 y1 y2 y3 y4 y5) (expr_tokens.j2 (k + 1) y0 y1 y2 y3 y4 y5)) ∧ (∀ y0 y1 y2 y3 y4 y5 y6 y7 y8, LeO (expr_tokens.l0 k y0 y1 y2 y3 y4 y5 y6 y7 y8) (expr_tokens.l0 (k + 1) y0 y1 y2 y3 y4 y5 y6 y7 y8)) ∧ (∀ y0 y1 y2 y3 y4 y5 y6 y7, LeO (expr_tokens.j0 k y0 y1 y2 y3 y4 y5 y6 y7) (expr_tokens.j0 (k + 1) y0 y1 y2 y3 y4 y5 y6 y7))
  | 0 => ⟨fun _ _ _ _ _ r h => by simp [expr_tokens.f] at h, fun _ _ _ _ _ _ r h => by simp [expr_tokens.j1] at h, fun _ _ _ _ _ _ r h => by simp [expr_tokens.j2] at h, fun _ _ _ _ _ _ _ _ _ r h => by simp [expr_tokens.l0] at h, fun _ _ _ _ _ _ _ _ r h => by simp [expr_tokens.j0] at h⟩
  | k + 1 => by
    obtain ⟨ih0, ih1, ih2, ih3, ih4⟩ := expr_tokens.mono_l k
    refine ⟨?_, ?_, ?_, ?_, ?_⟩
    · intro y0 y1 y2 y3 y4
      unfold expr_tokens.f
      repeat' first
      | (with_reducible exact ih0 _ _ _ _ _)
      | (with_reducible exact ih1 _ _ _ _ _ _)
      | (with_reducible exact ih2 _ _ _ _ _ _)
      | (with_reducible exact ih3 _ _ _ _ _ _ _ _ _)
      | (with_reducible exact ih4 _ _ _ _ _ _ _ _)
      | (with_reducible exact expr_wrapped.mono _ _ _ _ _ _)
      | (with_reducible exact LeO.refl _)
      | (with_reducible exact LeO.none _)
      | (with_reducible refine LeO.ite ?_ ?_)
      | (with_reducible refine LeO.bind ?_ (fun _ => ?_))
      | exact ih0 _ _ _ _ _
      | exact ih1 _ _ _ _ _ _
      | exact ih2 _ _ _ _ _ _
      | exact ih3 _ _ _ _ _ _ _ _ _
      | exact ih4 _ _ _ _ _ _ _ _
      | exact expr_wrapped.mono _ _ _ _ _ _
      | exact LeO.none _
      | refine LeO.ite ?_ ?_
      | refine LeO.bind ?_ (fun _ => ?_)
    · intro y0 y1 y2 y3 y4 y5
      unfold expr_tokens.j1
      repeat' first
      | (with_reducible exact ih0 _ _ _ _ _)
      | (with_reducible exact ih1 _ _ _ _ _ _)
      | (with_reducible exact ih2 _ _ _ _ _ _)
      | (with_reducible exact ih3 _ _ _ _ _ _ _ _ _)
      | (with_reducible exact ih4 _ _ _ _ _ _ _ _)
      | (with_reducible exact expr_wrapped.mono _ _ _ _ _ _)
      | (with_reducible exact LeO.refl _)
      | (with_reducible exact LeO.none _)
      | (with_reducible refine LeO.ite ?_ ?_)
      | (with_reducible refine LeO.bind ?_ (fun _ => ?_))
      | exact ih0 _ _ _ _ _
      | exact ih1 _ _ _ _ _ _
      | exact ih2 _ _ _ _ _ _
      | exact ih3 _ _ _ _ _ _ _ _ _
      | exact ih4 _ _ _ _ _ _ _ _
      | exact expr_wrapped.mono _ _ _ _ _ _
      | exact LeO.none _
      | refine LeO.ite ?_ ?_
      | refine LeO.bind ?_ (fun _ => ?_)
    · intro y0 y1 y2 y3 y4 y5
      unfold expr_tokens.j2
      repeat' first
      | (with_reducible exact ih0 _ _ _ _ _)
      | (with_reducible exact ih1 _ _ _ _ _ _)
      | (with_reducible exact ih2 _ _ _ _ _ _)
      | (with_reducible exact ih3 _ _ _ _ _ _ _ _ _)
      | (with_reducible exact ih4 _ _ _ _ _ _ _ _)
      | (with_reducible exact expr_wrapped.mono _ _ _ _ _ _)
      | (with_reducible exact LeO.refl _)
      | (with_reducible exact LeO.none _)
      | (with_reducible refine LeO.ite ?_ ?_)
      | (with_reducible refine LeO.bind ?_ (fun _ => ?_))
      | exact ih0 _ _ _ _ _
      | exact ih1 _ _ _ _ _ _
      | exact ih2 _ _ _ _ _ _
      | exact ih3 _ _ _ _ _ _ _ _ _
      | exact ih4 _ _ _ _ _ _ _ _
      | exact expr_wrapped.mono _ _ _ _ _ _
      | exact LeO.none _
      | refine LeO.ite ?_ ?_
      | refine LeO.bind ?_ (fun _ => ?_)
    · intro y0 y1 y2 y3 y4 y5 y6 y7 y8
      unfold expr_tokens.l0
      repeat' first
      | (with_reducible exact ih0 _ _ _ _ _)
      | (with_reducible exact ih1 _ _ _ _ _ _)
      | (with_reducible exact ih2 _ _ _ _ _ _)
      | (with_reducible exact ih3 _ _ _ _ _ _ _ _ _)
      | (with_reducible exact ih4 _ _ _ _ _ _ _ _)
      | (with_reducible exact expr_wrapped.mono _ _ _ _ _ _)
      | (with_reducible exact LeO.refl _)
      | (with_reducible exact LeO.none _)
      | (with_reducible refine LeO.ite ?_ ?_)
      | (with_reducible refine LeO.bind ?_ (fun _ => ?_))
      | exact ih0 _ _ _ _ _
      | exact ih1 _ _ _ _ _ _
      | exact ih2 _ _ _ _ _ _
      | exact ih3 _ _ _ _ _ _ _ _ _
      | exact ih4 _ _ _ _ _ _ _ _
      | exact expr_wrapped.mono _ _ _ _ _ _
      | exact LeO.none _
      | refine LeO.ite ?_ ?_
      | refine LeO.bind ?_ (fun _ => ?_)
    · intro y0 y1 y2 y3 y4 y5 y6 y7
      unfold expr_tokens.j0
      repeat' first
      | (with_reducible exact ih0 _ _ _ _ _)
      | (with_reducible exact ih1 _ _ _ _ _ _)
      | (with_reducible exact ih2 _ _ _ _ _ _)
      | (with_reducible exact ih3 _ _ _ _ _ _ _ _ _)
      | (with_reducible exact ih4 _ _ _ _ _ _ _ _)
      | (with_reducible exact expr_wrapped.mono _ _ _ _ _ _)
      | (with_reducible exact LeO.refl _)
      | (with_reducible exact LeO.none _)
      | (with_reducible refine LeO.ite ?_ ?_)
      | (with_reducible refine LeO.bind ?_ (fun _ => ?_))
      | exact ih0 _ _ _ _ _
      | exact ih1 _ _ _ _ _ _
      | exact ih2 _ _ _ _ _ _
      | exact ih3 _ _ _ _ _ _ _ _ _
      | exact ih4 _ _ _ _ _ _ _ _
      | exact expr_wrapped.mono _ _ _ _ _ _
      | exact LeO.none _
      | refine LeO.ite ?_ ?_
      | refine LeO.bind ?_ (fun _ => ?_)
theorem expr_tokens.mono : ∀ a0 a1 a2 a3 a4 k, LeO (expr_tokens.f k a0 a1 a2 a3 a4) (expr_tokens.f (k + 1) a0 a1 a2 a3 a4) := by
  intro a0 a1 a2 a3 a4 k
  obtain ⟨ih0, ih1, ih2, ih3, ih4⟩ := expr_tokens.mono_l k
  exact ih0 a0 a1 a2 a3 a4
set_option maxHeartbeats 8000000 in
set_option maxRecDepth 100000 in
theorem expr_tokens.calls (k : Nat) : ∀ (a0_0 : Int) (a0_1 : Int) (a0_2 : ByteArray) (A0_3 : Option Addr) (c0_3 : Nat) (l0_3 : List (S34)) (a1 : Int) (r : Int) (w : World) (hr0_3 : Kd.C k34 w A0_3 l0_3.length l0_3) (hc0_3 : l0_3.length ≤ c0_3) (h : expr_tokens.f k a0_0 a0_1 a0_2 l0_3 a1 = some r) (hT : UT w),
    Calls Tryd.prog 63 #[.agg #[.int .i64 a0_0, .int .i64 a0_1, .string a0_2, .slice A0_3 l0_3.length c0_3], .int .i64 a1] w fun e w' => e = .returned (.int .i64 r) ∧ Below w.heap.size w w' := by
  induction k using Nat.strongRecOn with
  | _ k ih =>
  intro a0_0 a0_1 a0_2 A0_3 c0_3 l0_3 a1 r w hr0_3 hc0_3 h hT
  have HT0 := Aside0.mk hT
  clear hT
  cases k with
  | zero => exact absurd h (by simp [expr_tokens.f])
  | succ k =>
  simp only [expr_tokens.f] at h
  have hu34 := Tryd.underlying34
  have HR0_3 := Aside0.mk hr0_3
  have HC0_3 := Aside0.mk hc0_3
  clear hr0_3 hc0_3
  have HB := Aside0.mk (Below.refl w.heap.size w)
  have H : (if a0_0 = 0 then (expr_tokens.j0 k a1 2 a0_0 (a0_0 == 0) a0_0 a0_1 a0_2 l0_3) else (expr_tokens.j0 k a1 2 a0_0 (a0_0 == 1) a0_0 a0_1 a0_2 l0_3)) = some r := h
  clear h
  have HC3 := Aside0.mk H
  clear H
  go_enter Tryd.func63, Tryd.ntmps63
  go_upto_block 0 with (first | ((with_reducible refine gate_dst (N := 2) rfl ?_); (try (refine gate_guard (by rfl) ?_; dsimp only)); refine box_event ?hg (N := 2) ?hd (cs := #[.int .i64 a0_0, .int .i64 a0_1, .string a0_2, .slice A0_3 l0_3.length c0_3]) (t := 34) ?hr ?_; (case hd => rfl); (case hg => rfl); (case hr => first | (go_simp; done) | (go_simp; rfl)); intro gb101 hg w4 hbox hb; have n0_ := Aside0.mk (below_step (by repeat (first | (with_reducible first | exact HB.out | apply below_alloc | apply pw_below_drewN | apply below_drew1) | exact HB.out)) hb); have n1_ := Aside0.mk (hbox); have n2_ := Aside0.mk ((by rw [hg]; exact (below_size (by repeat (first | (with_reducible first | exact HB.out | apply below_alloc | apply pw_below_drewN | apply below_drew1) | exact HB.out))) : w.heap.size ≤ gb101)); have n3_ := Aside0.mk ((by rw [hg]; exact (below_size (by repeat (first | (with_reducible first | exact HB.out | apply below_alloc | apply pw_below_drewN | apply below_drew1) | exact HB.out))) : w.heap.size ≤ gb101)); clear HB; have HB := n0_; have BK101 := n1_; have GW101 := n2_; have GE101 := n3_; clear n0_ n1_ n2_ n3_; clear hb hbox hg; have hcz5_0 : w4.cell? ⟨gb101, 0, none⟩ = some (.int .i64 a0_0) := (blk_cell BK101.out 0).trans rfl; have hcz5_1 : w4.cell? ⟨gb101, 1, none⟩ = some (.int .i64 a0_1) := (blk_cell BK101.out 1).trans rfl; have hcz5_2 : w4.cell? ⟨gb101, 2, none⟩ = some (.string a0_2) := (blk_cell BK101.out 2).trans rfl; have hcz5_3 : w4.cell? ⟨gb101, 3, none⟩ = some (.slice A0_3 l0_3.length c0_3) := (blk_cell BK101.out 3).trans rfl; have hfz5_0 := blk_frozen BK101.out 0; have hfz5_1 := blk_frozen BK101.out 1; have hfz5_2 := blk_frozen BK101.out 2; have hfz5_3 := blk_frozen BK101.out 3))
  (try simp only [Act.put, List.setIfInBounds_toArray, List.set_cons_zero, List.set_cons_succ])
  go_cut [5] (fun v5 wc => ∃ (kq : Nat) (x5_2 : Int), v5 = .int .i64 x5_2 ∧ Aside0 (expr_tokens.j1 kq a1 x5_2 a0_0 a0_1 a0_2 l0_3 = some r) ∧ Aside0 (kq ≤ k) ∧ Aside0 (wc.heap[gb101]? = some (.cells #[.int .i64 a0_0, .int .i64 a0_1, .string a0_2, (.slice A0_3 l0_3.length c0_3)] 34 (0, 0))) ∧ Aside0 (Below w.heap.size w wc))
  case first =>
    have H := HC3.out
    clear HC3
    have HC6 := Aside0.mk H
    clear H
    go_upto_if 12 with (fail)
    go_cut [12] (fun v12 wc => ∃ (kq : Nat) (x12_5 : Bool), v12 = .bool x12_5 ∧ Aside0 (expr_tokens.j0 kq a1 2 a0_0 x12_5 a0_0 a0_1 a0_2 l0_3 = some r) ∧ Aside0 (kq ≤ k) ∧ Aside0 (wc.heap[gb101]? = some (.cells #[.int .i64 a0_0, .int .i64 a0_1, .string a0_2, (.slice A0_3 l0_3.length c0_3)] 34 (0, 0))) ∧ Aside0 (Below w.heap.size w wc))
    case first =>
      have H := HC6.out
      clear HC6
      by_cases c7 : a0_0 = 0
      · rw [if_pos c7] at H
        have c7b0 : (a0_0 == 0) = true := beq_iff_eq.mpr c7
        have c7b1 : (a0_0 != 0) = false := bne_eq_false_iff_eq.mpr c7
        clear c7
        (first | rw [c7b0] | (simp only [i64_w, i32_w]; rw [c7b0]) | skip)
        have H' := Aside0.mk H
        clear H
        go_wp2
        go_meet
        case rel => exact ⟨_, ((a0_0 == 0)), (by first | rfl | (simp; done) | (simp [*]; done)), H', ⟨by first | omega | exact Nat.le_refl _⟩, ⟨by (with_reducible repeat (first | refine blk_drewN ?_ _ | refine blk_drew ?_ | refine blk_alloc ?_ _)); exact BK101.out⟩, ⟨by repeat (first | (with_reducible first | exact HB.out | apply below_alloc | apply pw_below_drewN | apply below_drew1 | refine below_set ?_ GE101.out) | exact HB.out)⟩⟩
      · rw [if_neg c7] at H
        have c7b0 : (a0_0 == 0) = false := beq_eq_false_iff_ne.mpr c7
        have c7b1 : (a0_0 != 0) = true := bne_iff_ne.mpr c7
        (first | rw [c7b0] | (simp only [i64_w, i32_w]; rw [c7b0]) | skip)
        have H' := Aside0.mk H
        clear H
        go_wp2
        go_meet
        case rel => exact ⟨_, ((a0_0 == 1)), (by first | rfl | (simp; done) | (simp [*]; done)), H', ⟨by first | omega | exact Nat.le_refl _⟩, ⟨by (with_reducible repeat (first | refine blk_drewN ?_ _ | refine blk_drew ?_ | refine blk_alloc ?_ _)); exact BK101.out⟩, ⟨by repeat (first | (with_reducible first | exact HB.out | apply below_alloc | apply pw_below_drewN | apply below_drew1 | refine below_set ?_ GE101.out) | exact HB.out)⟩⟩
    case rest =>
      clear HC6
      obtain ⟨kq, x12_5, rfl, HA, HJ5, BK101, HB⟩ := hcut
      cases kq with
      | zero => exact absurd HA.out (by simp [expr_tokens.j0])
      | succ kj5 =>
        have H := HA.out
        clear HA
        simp only [expr_tokens.j0] at H
        by_cases c8 : x12_5 = true
        · subst c8
          have H1 : (if (l0_3.length : Int) > 0 then (some (-1)) else (if a0_0 = 0 then (if a0_1 < 0 then (some (-1)) else (if a0_2.toList = ([] : List UInt8) then (if a0_0 = 1 then (if a0_1 = 0 then ((lex_Name.f a0_2).bind fun t102 => (if t102 = true then (some 1) else (some (-1)))) else (some (-1))) else (some 1)) else (some (-1)))) else (if a0_0 = 1 then (if a0_1 = 0 then ((lex_Name.f a0_2).bind fun t103 => (if t103 = true then (some 1) else (some (-1)))) else (some (-1))) else (some 1)))) = some r := by rw [if_pos rfl] at H; exact H
          clear H
          have H := H1
          clear H1
          by_cases c9 : (l0_3.length : Int) > 0
          · rw [if_pos c9] at H
            have c9b0 : decide (0 < (l0_3.length : Int)) = true := decide_eq_true c9
            have c9b1 : decide (0 < l0_3.length) = true := decide_eq_true (by omega)
            clear c9
            obtain rfl := Option.some.inj H
            have hcz10_0 : wc.cell? ⟨gb101, 0, none⟩ = some (.int .i64 a0_0) := (blk_cell BK101.out 0).trans rfl
            have hcz10_1 : wc.cell? ⟨gb101, 1, none⟩ = some (.int .i64 a0_1) := (blk_cell BK101.out 1).trans rfl
            have hcz10_2 : wc.cell? ⟨gb101, 2, none⟩ = some (.string a0_2) := (blk_cell BK101.out 2).trans rfl
            have hcz10_3 : wc.cell? ⟨gb101, 3, none⟩ = some (.slice A0_3 l0_3.length c0_3) := (blk_cell BK101.out 3).trans rfl
            have hfz10_0 := blk_frozen BK101.out 0
            have hfz10_1 := blk_frozen BK101.out 1
            have hfz10_2 := blk_frozen BK101.out 2
            have hfz10_3 := blk_frozen BK101.out 3
            go_wp2
            go_ret
            exact ⟨by first | rfl | (simp [errW_none, errW_some] <;> rfl) | (simp [*, errW_none, errW_some] <;> rfl), by repeat (first | (with_reducible first | exact HB.out | apply below_alloc | apply pw_below_drewN | apply below_drew1 | refine below_set ?_ GE101.out) | exact HB.out)⟩
          · rw [if_neg c9] at H
            have c9b0 : decide (0 < (l0_3.length : Int)) = false := decide_eq_false c9
            have c9b1 : decide (0 < l0_3.length) = false := decide_eq_false (by omega)
            clear c9
            by_cases c11 : a0_0 = 0
            · rw [if_pos c11] at H
              have c11b0 : (a0_0 == 0) = true := beq_iff_eq.mpr c11
              have c11b1 : (a0_0 != 0) = false := bne_eq_false_iff_eq.mpr c11
              clear c11
              by_cases c12 : a0_1 < 0
              · rw [if_pos c12] at H
                have c12b0 : decide (a0_1 < 0) = true := decide_eq_true c12
                clear c12
                obtain rfl := Option.some.inj H
                have hcz13_0 : wc.cell? ⟨gb101, 0, none⟩ = some (.int .i64 a0_0) := (blk_cell BK101.out 0).trans rfl
                have hcz13_1 : wc.cell? ⟨gb101, 1, none⟩ = some (.int .i64 a0_1) := (blk_cell BK101.out 1).trans rfl
                have hcz13_2 : wc.cell? ⟨gb101, 2, none⟩ = some (.string a0_2) := (blk_cell BK101.out 2).trans rfl
                have hcz13_3 : wc.cell? ⟨gb101, 3, none⟩ = some (.slice A0_3 l0_3.length c0_3) := (blk_cell BK101.out 3).trans rfl
                have hfz13_0 := blk_frozen BK101.out 0
                have hfz13_1 := blk_frozen BK101.out 1
                have hfz13_2 := blk_frozen BK101.out 2
                have hfz13_3 := blk_frozen BK101.out 3
                go_wp2
                go_ret
                exact ⟨by first | rfl | (simp [errW_none, errW_some] <;> rfl) | (simp [*, errW_none, errW_some] <;> rfl), by repeat (first | (with_reducible first | exact HB.out | apply below_alloc | apply pw_below_drewN | apply below_drew1 | refine below_set ?_ GE101.out) | exact HB.out)⟩
              · rw [if_neg c12] at H
                have c12b0 : decide (a0_1 < 0) = false := decide_eq_false c12
                clear c12
                by_cases c14 : a0_2.toList = ([] : List UInt8)
                · rw [if_pos c14] at H
                  have c14b0 : (a0_2.toList == ([] : List UInt8)) = true := beq_iff_eq.mpr c14
                  have c14b1 : (a0_2.toList != ([] : List UInt8)) = false := bne_eq_false_iff_eq.mpr c14
                  clear c14
                  by_cases c15 : a0_0 = 1
                  · rw [if_pos c15] at H
                    have c15b0 : (a0_0 == 1) = true := beq_iff_eq.mpr c15
                    have c15b1 : (a0_0 != 1) = false := bne_eq_false_iff_eq.mpr c15
                    clear c15
                    by_cases c16 : a0_1 = 0
                    · rw [if_pos c16] at H
                      have c16b0 : (a0_1 == 0) = true := beq_iff_eq.mpr c16
                      have c16b1 : (a0_1 != 0) = false := bne_eq_false_iff_eq.mpr c16
                      clear c16
                      replace H := Option.bind_eq_some_iff.mp H
                      obtain ⟨t102, A170, H⟩ := H
                      replace H : (if t102 = true then (some 1) else (some (-1))) = some r := H
                      have A17 := Aside0.mk A170
                      clear A170
                      by_cases c18 : t102 = true
                      · subst c18
                        have H1 : (some 1) = some r := by rw [if_pos rfl] at H; exact H
                        clear H
                        have H := H1
                        clear H1
                        obtain rfl := Option.some.inj H
                        have hcz19_0 : wc.cell? ⟨gb101, 0, none⟩ = some (.int .i64 a0_0) := (blk_cell BK101.out 0).trans rfl
                        have hcz19_1 : wc.cell? ⟨gb101, 1, none⟩ = some (.int .i64 a0_1) := (blk_cell BK101.out 1).trans rfl
                        have hcz19_2 : wc.cell? ⟨gb101, 2, none⟩ = some (.string a0_2) := (blk_cell BK101.out 2).trans rfl
                        have hcz19_3 : wc.cell? ⟨gb101, 3, none⟩ = some (.slice A0_3 l0_3.length c0_3) := (blk_cell BK101.out 3).trans rfl
                        have hfz19_0 := blk_frozen BK101.out 0
                        have hfz19_1 := blk_frozen BK101.out 1
                        have hfz19_2 := blk_frozen BK101.out 2
                        have hfz19_3 := blk_frozen BK101.out 3
                        go_wp2_with (first | (go_at_call 91; (with_reducible refine (lex_Name.calls a0_2 true _ A17.out (by first | exact HT0.out | exact UT.below HT0.out (by repeat (first | (with_reducible first | exact HB.out | apply below_alloc | apply pw_below_drewN | apply below_drew1 | refine below_set ?_ GE101.out) | exact HB.out)))).mono ?_); rintro e w20 ⟨rfl, hb⟩; have n0_ := Aside0.mk (blk_below (g := gb101) (o := .cells #[.int .i64 a0_0, .int .i64 a0_1, .string a0_2, .slice A0_3 l0_3.length c0_3] 34 (0, 0)) (by (with_reducible repeat (first | refine blk_drewN ?_ _ | refine blk_drew ?_ | refine blk_alloc ?_ _)); exact BK101.out) hb); have n1_ := Aside0.mk (below_step (by repeat (first | (with_reducible first | exact HB.out | apply below_alloc | apply pw_below_drewN | apply below_drew1 | refine below_set ?_ GE101.out) | exact HB.out)) hb); clear BK101; clear HB; have BK101 := n0_; have HB := n1_; clear n0_ n1_; (try clear hb); (try clear hb2); (try clear hk); (try clear hi)))
                        go_ret
                        exact ⟨by first | rfl | (simp [errW_none, errW_some] <;> rfl) | (simp [*, errW_none, errW_some] <;> rfl), by repeat (first | (with_reducible first | exact HB.out | apply below_alloc | apply pw_below_drewN | apply below_drew1 | refine below_set ?_ GE101.out) | exact HB.out)⟩
                      · replace c18 := Bool.eq_false_iff.mpr c18
                        subst c18
                        have H1 : (some (-1)) = some r := by rw [if_neg (show ¬ (false = true) by decide)] at H; exact H
                        clear H
                        have H := H1
                        clear H1
                        obtain rfl := Option.some.inj H
                        have hcz21_0 : wc.cell? ⟨gb101, 0, none⟩ = some (.int .i64 a0_0) := (blk_cell BK101.out 0).trans rfl
                        have hcz21_1 : wc.cell? ⟨gb101, 1, none⟩ = some (.int .i64 a0_1) := (blk_cell BK101.out 1).trans rfl
                        have hcz21_2 : wc.cell? ⟨gb101, 2, none⟩ = some (.string a0_2) := (blk_cell BK101.out 2).trans rfl
                        have hcz21_3 : wc.cell? ⟨gb101, 3, none⟩ = some (.slice A0_3 l0_3.length c0_3) := (blk_cell BK101.out 3).trans rfl
                        have hfz21_0 := blk_frozen BK101.out 0
                        have hfz21_1 := blk_frozen BK101.out 1
                        have hfz21_2 := blk_frozen BK101.out 2
                        have hfz21_3 := blk_frozen BK101.out 3
                        go_wp2_with (first | (go_at_call 91; (with_reducible refine (lex_Name.calls a0_2 false _ A17.out (by first | exact HT0.out | exact UT.below HT0.out (by repeat (first | (with_reducible first | exact HB.out | apply below_alloc | apply pw_below_drewN | apply below_drew1 | refine below_set ?_ GE101.out) | exact HB.out)))).mono ?_); rintro e w22 ⟨rfl, hb⟩; have n0_ := Aside0.mk (blk_below (g := gb101) (o := .cells #[.int .i64 a0_0, .int .i64 a0_1, .string a0_2, .slice A0_3 l0_3.length c0_3] 34 (0, 0)) (by (with_reducible repeat (first | refine blk_drewN ?_ _ | refine blk_drew ?_ | refine blk_alloc ?_ _)); exact BK101.out) hb); have n1_ := Aside0.mk (below_step (by repeat (first | (with_reducible first | exact HB.out | apply below_alloc | apply pw_below_drewN | apply below_drew1 | refine below_set ?_ GE101.out) | exact HB.out)) hb); clear BK101; clear HB; have BK101 := n0_; have HB := n1_; clear n0_ n1_; (try clear hb); (try clear hb2); (try clear hk); (try clear hi)))
                        go_ret
                        exact ⟨by first | rfl | (simp [errW_none, errW_some] <;> rfl) | (simp [*, errW_none, errW_some] <;> rfl), by repeat (first | (with_reducible first | exact HB.out | apply below_alloc | apply pw_below_drewN | apply below_drew1 | refine below_set ?_ GE101.out) | exact HB.out)⟩
                    · rw [if_neg c16] at H
                      have c16b0 : (a0_1 == 0) = false := beq_eq_false_iff_ne.mpr c16
                      have c16b1 : (a0_1 != 0) = true := bne_iff_ne.mpr c16
                      obtain rfl := Option.some.inj H
                      have hcz23_0 : wc.cell? ⟨gb101, 0, none⟩ = some (.int .i64 a0_0) := (blk_cell BK101.out 0).trans rfl
                      have hcz23_1 : wc.cell? ⟨gb101, 1, none⟩ = some (.int .i64 a0_1) := (blk_cell BK101.out 1).trans rfl
                      have hcz23_2 : wc.cell? ⟨gb101, 2, none⟩ = some (.string a0_2) := (blk_cell BK101.out 2).trans rfl
                      have hcz23_3 : wc.cell? ⟨gb101, 3, none⟩ = some (.slice A0_3 l0_3.length c0_3) := (blk_cell BK101.out 3).trans rfl
                      have hfz23_0 := blk_frozen BK101.out 0
                      have hfz23_1 := blk_frozen BK101.out 1
                      have hfz23_2 := blk_frozen BK101.out 2
                      have hfz23_3 := blk_frozen BK101.out 3
                      go_wp2
                      go_ret
                      exact ⟨by first | rfl | (simp [errW_none, errW_some] <;> rfl) | (simp [*, errW_none, errW_some] <;> rfl), by repeat (first | (with_reducible first | exact HB.out | apply below_alloc | apply pw_below_drewN | apply below_drew1 | refine below_set ?_ GE101.out) | exact HB.out)⟩
                  · rw [if_neg c15] at H
                    have c15b0 : (a0_0 == 1) = false := beq_eq_false_iff_ne.mpr c15
                    have c15b1 : (a0_0 != 1) = true := bne_iff_ne.mpr c15
                    obtain rfl := Option.some.inj H
                    have hcz24_0 : wc.cell? ⟨gb101, 0, none⟩ = some (.int .i64 a0_0) := (blk_cell BK101.out 0).trans rfl
                    have hcz24_1 : wc.cell? ⟨gb101, 1, none⟩ = some (.int .i64 a0_1) := (blk_cell BK101.out 1).trans rfl
                    have hcz24_2 : wc.cell? ⟨gb101, 2, none⟩ = some (.string a0_2) := (blk_cell BK101.out 2).trans rfl
                    have hcz24_3 : wc.cell? ⟨gb101, 3, none⟩ = some (.slice A0_3 l0_3.length c0_3) := (blk_cell BK101.out 3).trans rfl
                    have hfz24_0 := blk_frozen BK101.out 0
                    have hfz24_1 := blk_frozen BK101.out 1
                    have hfz24_2 := blk_frozen BK101.out 2
                    have hfz24_3 := blk_frozen BK101.out 3
                    go_wp2
                    go_ret
                    exact ⟨by first | rfl | (simp [errW_none, errW_some] <;> rfl) | (simp [*, errW_none, errW_some] <;> rfl), by repeat (first | (with_reducible first | exact HB.out | apply below_alloc | apply pw_below_drewN | apply below_drew1 | refine below_set ?_ GE101.out) | exact HB.out)⟩
                · rw [if_neg c14] at H
                  have c14b0 : (a0_2.toList == ([] : List UInt8)) = false := beq_eq_false_iff_ne.mpr c14
                  have c14b1 : (a0_2.toList != ([] : List UInt8)) = true := bne_iff_ne.mpr c14
                  obtain rfl := Option.some.inj H
                  have hcz25_0 : wc.cell? ⟨gb101, 0, none⟩ = some (.int .i64 a0_0) := (blk_cell BK101.out 0).trans rfl
                  have hcz25_1 : wc.cell? ⟨gb101, 1, none⟩ = some (.int .i64 a0_1) := (blk_cell BK101.out 1).trans rfl
                  have hcz25_2 : wc.cell? ⟨gb101, 2, none⟩ = some (.string a0_2) := (blk_cell BK101.out 2).trans rfl
                  have hcz25_3 : wc.cell? ⟨gb101, 3, none⟩ = some (.slice A0_3 l0_3.length c0_3) := (blk_cell BK101.out 3).trans rfl
                  have hfz25_0 := blk_frozen BK101.out 0
                  have hfz25_1 := blk_frozen BK101.out 1
                  have hfz25_2 := blk_frozen BK101.out 2
                  have hfz25_3 := blk_frozen BK101.out 3
                  go_wp2
                  go_ret
                  exact ⟨by first | rfl | (simp [errW_none, errW_some] <;> rfl) | (simp [*, errW_none, errW_some] <;> rfl), by repeat (first | (with_reducible first | exact HB.out | apply below_alloc | apply pw_below_drewN | apply below_drew1 | refine below_set ?_ GE101.out) | exact HB.out)⟩
            · rw [if_neg c11] at H
              have c11b0 : (a0_0 == 0) = false := beq_eq_false_iff_ne.mpr c11
              have c11b1 : (a0_0 != 0) = true := bne_iff_ne.mpr c11
              by_cases c26 : a0_0 = 1
              · rw [if_pos c26] at H
                have c26b0 : (a0_0 == 1) = true := beq_iff_eq.mpr c26
                have c26b1 : (a0_0 != 1) = false := bne_eq_false_iff_eq.mpr c26
                clear c26
                by_cases c27 : a0_1 = 0
                · rw [if_pos c27] at H
                  have c27b0 : (a0_1 == 0) = true := beq_iff_eq.mpr c27
                  have c27b1 : (a0_1 != 0) = false := bne_eq_false_iff_eq.mpr c27
                  clear c27
                  replace H := Option.bind_eq_some_iff.mp H
                  obtain ⟨t103, A280, H⟩ := H
                  replace H : (if t103 = true then (some 1) else (some (-1))) = some r := H
                  have A28 := Aside0.mk A280
                  clear A280
                  by_cases c29 : t103 = true
                  · subst c29
                    have H1 : (some 1) = some r := by rw [if_pos rfl] at H; exact H
                    clear H
                    have H := H1
                    clear H1
                    obtain rfl := Option.some.inj H
                    have hcz30_0 : wc.cell? ⟨gb101, 0, none⟩ = some (.int .i64 a0_0) := (blk_cell BK101.out 0).trans rfl
                    have hcz30_1 : wc.cell? ⟨gb101, 1, none⟩ = some (.int .i64 a0_1) := (blk_cell BK101.out 1).trans rfl
                    have hcz30_2 : wc.cell? ⟨gb101, 2, none⟩ = some (.string a0_2) := (blk_cell BK101.out 2).trans rfl
                    have hcz30_3 : wc.cell? ⟨gb101, 3, none⟩ = some (.slice A0_3 l0_3.length c0_3) := (blk_cell BK101.out 3).trans rfl
                    have hfz30_0 := blk_frozen BK101.out 0
                    have hfz30_1 := blk_frozen BK101.out 1
                    have hfz30_2 := blk_frozen BK101.out 2
                    have hfz30_3 := blk_frozen BK101.out 3
                    go_wp2_with (first | (go_at_call 91; (with_reducible refine (lex_Name.calls a0_2 true _ A28.out (by first | exact HT0.out | exact UT.below HT0.out (by repeat (first | (with_reducible first | exact HB.out | apply below_alloc | apply pw_below_drewN | apply below_drew1 | refine below_set ?_ GE101.out) | exact HB.out)))).mono ?_); rintro e w31 ⟨rfl, hb⟩; have n0_ := Aside0.mk (blk_below (g := gb101) (o := .cells #[.int .i64 a0_0, .int .i64 a0_1, .string a0_2, .slice A0_3 l0_3.length c0_3] 34 (0, 0)) (by (with_reducible repeat (first | refine blk_drewN ?_ _ | refine blk_drew ?_ | refine blk_alloc ?_ _)); exact BK101.out) hb); have n1_ := Aside0.mk (below_step (by repeat (first | (with_reducible first | exact HB.out | apply below_alloc | apply pw_below_drewN | apply below_drew1 | refine below_set ?_ GE101.out) | exact HB.out)) hb); clear BK101; clear HB; have BK101 := n0_; have HB := n1_; clear n0_ n1_; (try clear hb); (try clear hb2); (try clear hk); (try clear hi)))
                    go_ret
                    exact ⟨by first | rfl | (simp [errW_none, errW_some] <;> rfl) | (simp [*, errW_none, errW_some] <;> rfl), by repeat (first | (with_reducible first | exact HB.out | apply below_alloc | apply pw_below_drewN | apply below_drew1 | refine below_set ?_ GE101.out) | exact HB.out)⟩
                  · replace c29 := Bool.eq_false_iff.mpr c29
                    subst c29
                    have H1 : (some (-1)) = some r := by rw [if_neg (show ¬ (false = true) by decide)] at H; exact H
                    clear H
                    have H := H1
                    clear H1
                    obtain rfl := Option.some.inj H
                    have hcz32_0 : wc.cell? ⟨gb101, 0, none⟩ = some (.int .i64 a0_0) := (blk_cell BK101.out 0).trans rfl
                    have hcz32_1 : wc.cell? ⟨gb101, 1, none⟩ = some (.int .i64 a0_1) := (blk_cell BK101.out 1).trans rfl
                    have hcz32_2 : wc.cell? ⟨gb101, 2, none⟩ = some (.string a0_2) := (blk_cell BK101.out 2).trans rfl
                    have hcz32_3 : wc.cell? ⟨gb101, 3, none⟩ = some (.slice A0_3 l0_3.length c0_3) := (blk_cell BK101.out 3).trans rfl
                    have hfz32_0 := blk_frozen BK101.out 0
                    have hfz32_1 := blk_frozen BK101.out 1
                    have hfz32_2 := blk_frozen BK101.out 2
                    have hfz32_3 := blk_frozen BK101.out 3
                    go_wp2_with (first | (go_at_call 91; (with_reducible refine (lex_Name.calls a0_2 false _ A28.out (by first | exact HT0.out | exact UT.below HT0.out (by repeat (first | (with_reducible first | exact HB.out | apply below_alloc | apply pw_below_drewN | apply below_drew1 | refine below_set ?_ GE101.out) | exact HB.out)))).mono ?_); rintro e w33 ⟨rfl, hb⟩; have n0_ := Aside0.mk (blk_below (g := gb101) (o := .cells #[.int .i64 a0_0, .int .i64 a0_1, .string a0_2, .slice A0_3 l0_3.length c0_3] 34 (0, 0)) (by (with_reducible repeat (first | refine blk_drewN ?_ _ | refine blk_drew ?_ | refine blk_alloc ?_ _)); exact BK101.out) hb); have n1_ := Aside0.mk (below_step (by repeat (first | (with_reducible first | exact HB.out | apply below_alloc | apply pw_below_drewN | apply below_drew1 | refine below_set ?_ GE101.out) | exact HB.out)) hb); clear BK101; clear HB; have BK101 := n0_; have HB := n1_; clear n0_ n1_; (try clear hb); (try clear hb2); (try clear hk); (try clear hi)))
                    go_ret
                    exact ⟨by first | rfl | (simp [errW_none, errW_some] <;> rfl) | (simp [*, errW_none, errW_some] <;> rfl), by repeat (first | (with_reducible first | exact HB.out | apply below_alloc | apply pw_below_drewN | apply below_drew1 | refine below_set ?_ GE101.out) | exact HB.out)⟩
                · rw [if_neg c27] at H
                  have c27b0 : (a0_1 == 0) = false := beq_eq_false_iff_ne.mpr c27
                  have c27b1 : (a0_1 != 0) = true := bne_iff_ne.mpr c27
                  obtain rfl := Option.some.inj H
                  have hcz34_0 : wc.cell? ⟨gb101, 0, none⟩ = some (.int .i64 a0_0) := (blk_cell BK101.out 0).trans rfl
                  have hcz34_1 : wc.cell? ⟨gb101, 1, none⟩ = some (.int .i64 a0_1) := (blk_cell BK101.out 1).trans rfl
                  have hcz34_2 : wc.cell? ⟨gb101, 2, none⟩ = some (.string a0_2) := (blk_cell BK101.out 2).trans rfl
                  have hcz34_3 : wc.cell? ⟨gb101, 3, none⟩ = some (.slice A0_3 l0_3.length c0_3) := (blk_cell BK101.out 3).trans rfl
                  have hfz34_0 := blk_frozen BK101.out 0
                  have hfz34_1 := blk_frozen BK101.out 1
                  have hfz34_2 := blk_frozen BK101.out 2
                  have hfz34_3 := blk_frozen BK101.out 3
                  go_wp2
                  go_ret
                  exact ⟨by first | rfl | (simp [errW_none, errW_some] <;> rfl) | (simp [*, errW_none, errW_some] <;> rfl), by repeat (first | (with_reducible first | exact HB.out | apply below_alloc | apply pw_below_drewN | apply below_drew1 | refine below_set ?_ GE101.out) | exact HB.out)⟩
              · rw [if_neg c26] at H
                have c26b0 : (a0_0 == 1) = false := beq_eq_false_iff_ne.mpr c26
                have c26b1 : (a0_0 != 1) = true := bne_iff_ne.mpr c26
                obtain rfl := Option.some.inj H
                have hcz35_0 : wc.cell? ⟨gb101, 0, none⟩ = some (.int .i64 a0_0) := (blk_cell BK101.out 0).trans rfl
                have hcz35_1 : wc.cell? ⟨gb101, 1, none⟩ = some (.int .i64 a0_1) := (blk_cell BK101.out 1).trans rfl
                have hcz35_2 : wc.cell? ⟨gb101, 2, none⟩ = some (.string a0_2) := (blk_cell BK101.out 2).trans rfl
                have hcz35_3 : wc.cell? ⟨gb101, 3, none⟩ = some (.slice A0_3 l0_3.length c0_3) := (blk_cell BK101.out 3).trans rfl
                have hfz35_0 := blk_frozen BK101.out 0
                have hfz35_1 := blk_frozen BK101.out 1
                have hfz35_2 := blk_frozen BK101.out 2
                have hfz35_3 := blk_frozen BK101.out 3
                go_wp2
                go_ret
                exact ⟨by first | rfl | (simp [errW_none, errW_some] <;> rfl) | (simp [*, errW_none, errW_some] <;> rfl), by repeat (first | (with_reducible first | exact HB.out | apply below_alloc | apply pw_below_drewN | apply below_drew1 | refine below_set ?_ GE101.out) | exact HB.out)⟩
        · replace c8 := Bool.eq_false_iff.mpr c8
          subst c8
          have H1 : (if a0_0 = 2 then (expr_tokens.j1 kj5 a1 1 a0_0 a0_1 a0_2 l0_3) else (if a0_0 = 3 then (expr_tokens.j1 kj5 a1 1 a0_0 a0_1 a0_2 l0_3) else (expr_tokens.j1 kj5 a1 2 a0_0 a0_1 a0_2 l0_3))) = some r := by rw [if_neg (show ¬ (false = true) by decide)] at H; exact H
          clear H
          have H := H1
          clear H1
          by_cases c36 : a0_0 = 2
          · rw [if_pos c36] at H
            have c36b0 : (a0_0 == 2) = true := beq_iff_eq.mpr c36
            have c36b1 : (a0_0 != 2) = false := bne_eq_false_iff_eq.mpr c36
            clear c36
            have H' := Aside0.mk H
            clear H
            go_wp2
            go_meet
            case rel => exact ⟨_, (1), (by first | rfl | (simp; done) | (simp [*]; done)), H', ⟨by have := HJ5.out; first | omega | exact Nat.le_refl _⟩, ⟨by (with_reducible repeat (first | refine blk_drewN ?_ _ | refine blk_drew ?_ | refine blk_alloc ?_ _)); exact BK101.out⟩, ⟨by repeat (first | (with_reducible first | exact HB.out | apply below_alloc | apply pw_below_drewN | apply below_drew1 | refine below_set ?_ GE101.out) | exact HB.out)⟩⟩
          · rw [if_neg c36] at H
            have c36b0 : (a0_0 == 2) = false := beq_eq_false_iff_ne.mpr c36
            have c36b1 : (a0_0 != 2) = true := bne_iff_ne.mpr c36
            by_cases c37 : a0_0 = 3
            · rw [if_pos c37] at H
              have c37b0 : (a0_0 == 3) = true := beq_iff_eq.mpr c37
              have c37b1 : (a0_0 != 3) = false := bne_eq_false_iff_eq.mpr c37
              clear c37
              have H' := Aside0.mk H
              clear H
              go_wp2
              go_meet
              case rel => exact ⟨_, (1), (by first | rfl | (simp; done) | (simp [*]; done)), H', ⟨by have := HJ5.out; first | omega | exact Nat.le_refl _⟩, ⟨by (with_reducible repeat (first | refine blk_drewN ?_ _ | refine blk_drew ?_ | refine blk_alloc ?_ _)); exact BK101.out⟩, ⟨by repeat (first | (with_reducible first | exact HB.out | apply below_alloc | apply pw_below_drewN | apply below_drew1 | refine below_set ?_ GE101.out) | exact HB.out)⟩⟩
            · rw [if_neg c37] at H
              have c37b0 : (a0_0 == 3) = false := beq_eq_false_iff_ne.mpr c37
              have c37b1 : (a0_0 != 3) = true := bne_iff_ne.mpr c37
              have H' := Aside0.mk H
              clear H
              go_wp2
              go_meet
              case rel => exact ⟨_, (2), (by first | rfl | (simp; done) | (simp [*]; done)), H', ⟨by have := HJ5.out; first | omega | exact Nat.le_refl _⟩, ⟨by (with_reducible repeat (first | refine blk_drewN ?_ _ | refine blk_drew ?_ | refine blk_alloc ?_ _)); exact BK101.out⟩, ⟨by repeat (first | (with_reducible first | exact HB.out | apply below_alloc | apply pw_below_drewN | apply below_drew1 | refine below_set ?_ GE101.out) | exact HB.out)⟩⟩
  case rest =>
    clear HC3
    obtain ⟨kq, x5_2, rfl, HA, HJ2, BK101, HB⟩ := hcut
    cases kq with
    | zero => exact absurd HA.out (by simp [expr_tokens.j1])
    | succ kj2 =>
      have H := HA.out
      clear HA
      simp only [expr_tokens.j1] at H
      have HC38 := Aside0.mk H
      clear H
      go_upto_region 11 with (fail)
      go_cut [81] (fun v81 wc => ∃ (kq : Nat) (x81_37 : Bool), v81 = .bool x81_37 ∧ Aside0 (expr_tokens.j2 kq a1 x81_37 a0_0 a0_1 a0_2 l0_3 = some r) ∧ Aside0 (kq ≤ kj2) ∧ Aside0 (wc.heap[gb101]? = some (.cells #[.int .i64 a0_0, .int .i64 a0_1, .string a0_2, (.slice A0_3 l0_3.length c0_3)] 34 (0, 0))) ∧ Aside0 (Below w.heap.size w wc))
      case first =>
        have H := HC38.out
        clear HC38
        by_cases c39 : a0_0 < 0
        · rw [if_pos c39] at H
          have c39b0 : decide (a0_0 < 0) = true := decide_eq_true c39
          clear c39
          (first | rw [c39b0] | (simp only [i64_w, i32_w]; rw [c39b0]) | skip)
          have H' := Aside0.mk H
          clear H
          have hcz40_0 : wc.cell? ⟨gb101, 0, none⟩ = some (.int .i64 a0_0) := (blk_cell BK101.out 0).trans rfl
          have hcz40_1 : wc.cell? ⟨gb101, 1, none⟩ = some (.int .i64 a0_1) := (blk_cell BK101.out 1).trans rfl
          have hcz40_2 : wc.cell? ⟨gb101, 2, none⟩ = some (.string a0_2) := (blk_cell BK101.out 2).trans rfl
          have hcz40_3 : wc.cell? ⟨gb101, 3, none⟩ = some (.slice A0_3 l0_3.length c0_3) := (blk_cell BK101.out 3).trans rfl
          have hfz40_0 := blk_frozen BK101.out 0
          have hfz40_1 := blk_frozen BK101.out 1
          have hfz40_2 := blk_frozen BK101.out 2
          have hfz40_3 := blk_frozen BK101.out 3
          go_wp2
          go_meet
          case rel => exact ⟨_, (true), (by first | rfl | (simp; done) | (simp [*]; done)), H', ⟨by have := HJ2.out; first | omega | exact Nat.le_refl _⟩, ⟨by (with_reducible repeat (first | refine blk_drewN ?_ _ | refine blk_drew ?_ | refine blk_alloc ?_ _)); exact BK101.out⟩, ⟨by repeat (first | (with_reducible first | exact HB.out | apply below_alloc | apply pw_below_drewN | apply below_drew1 | refine below_set ?_ GE101.out) | exact HB.out)⟩⟩
        · rw [if_neg c39] at H
          have c39b0 : decide (a0_0 < 0) = false := decide_eq_false c39
          clear c39
          (first | rw [c39b0] | (simp only [i64_w, i32_w]; rw [c39b0]) | skip)
          by_cases c41 : a0_0 > 16
          · rw [if_pos c41] at H
            have c41b0 : decide (16 < a0_0) = true := decide_eq_true c41
            clear c41
            have H' := Aside0.mk H
            clear H
            have hcz42_0 : wc.cell? ⟨gb101, 0, none⟩ = some (.int .i64 a0_0) := (blk_cell BK101.out 0).trans rfl
            have hcz42_1 : wc.cell? ⟨gb101, 1, none⟩ = some (.int .i64 a0_1) := (blk_cell BK101.out 1).trans rfl
            have hcz42_2 : wc.cell? ⟨gb101, 2, none⟩ = some (.string a0_2) := (blk_cell BK101.out 2).trans rfl
            have hcz42_3 : wc.cell? ⟨gb101, 3, none⟩ = some (.slice A0_3 l0_3.length c0_3) := (blk_cell BK101.out 3).trans rfl
            have hfz42_0 := blk_frozen BK101.out 0
            have hfz42_1 := blk_frozen BK101.out 1
            have hfz42_2 := blk_frozen BK101.out 2
            have hfz42_3 := blk_frozen BK101.out 3
            go_wp2
            go_meet
            case rel => exact ⟨_, (true), (by first | rfl | (simp; done) | (simp [*]; done)), H', ⟨by have := HJ2.out; first | omega | exact Nat.le_refl _⟩, ⟨by (with_reducible repeat (first | refine blk_drewN ?_ _ | refine blk_drew ?_ | refine blk_alloc ?_ _)); exact BK101.out⟩, ⟨by repeat (first | (with_reducible first | exact HB.out | apply below_alloc | apply pw_below_drewN | apply below_drew1 | refine below_set ?_ GE101.out) | exact HB.out)⟩⟩
          · rw [if_neg c41] at H
            have c41b0 : decide (16 < a0_0) = false := decide_eq_false c41
            clear c41
            by_cases c43 : a0_1 = 0
            · rw [if_pos c43] at H
              have c43b0 : (a0_1 == 0) = true := beq_iff_eq.mpr c43
              have c43b1 : (a0_1 != 0) = false := bne_eq_false_iff_eq.mpr c43
              clear c43
              by_cases c44 : a0_2.toList = ([] : List UInt8)
              · rw [if_pos c44] at H
                have c44b0 : (a0_2.toList == ([] : List UInt8)) = true := beq_iff_eq.mpr c44
                have c44b1 : (a0_2.toList != ([] : List UInt8)) = false := bne_eq_false_iff_eq.mpr c44
                clear c44
                by_cases c45 : (l0_3.length : Int) = x5_2
                · rw [if_pos c45] at H
                  have c45b0 : ((l0_3.length : Int) == x5_2) = true := beq_iff_eq.mpr c45
                  have c45b1 : ((l0_3.length : Int) != x5_2) = false := bne_eq_false_iff_eq.mpr c45
                  clear c45
                  have H' := Aside0.mk H
                  clear H
                  have hcz46_0 : wc.cell? ⟨gb101, 0, none⟩ = some (.int .i64 a0_0) := (blk_cell BK101.out 0).trans rfl
                  have hcz46_1 : wc.cell? ⟨gb101, 1, none⟩ = some (.int .i64 a0_1) := (blk_cell BK101.out 1).trans rfl
                  have hcz46_2 : wc.cell? ⟨gb101, 2, none⟩ = some (.string a0_2) := (blk_cell BK101.out 2).trans rfl
                  have hcz46_3 : wc.cell? ⟨gb101, 3, none⟩ = some (.slice A0_3 l0_3.length c0_3) := (blk_cell BK101.out 3).trans rfl
                  have hfz46_0 := blk_frozen BK101.out 0
                  have hfz46_1 := blk_frozen BK101.out 1
                  have hfz46_2 := blk_frozen BK101.out 2
                  have hfz46_3 := blk_frozen BK101.out 3
                  go_wp2
                  go_meet
                  case rel => exact ⟨_, (decide (a1 < 1)), (by first | rfl | (simp; done) | (simp [*]; done)), H', ⟨by have := HJ2.out; first | omega | exact Nat.le_refl _⟩, ⟨by (with_reducible repeat (first | refine blk_drewN ?_ _ | refine blk_drew ?_ | refine blk_alloc ?_ _)); exact BK101.out⟩, ⟨by repeat (first | (with_reducible first | exact HB.out | apply below_alloc | apply pw_below_drewN | apply below_drew1 | refine below_set ?_ GE101.out) | exact HB.out)⟩⟩
                · rw [if_neg c45] at H
                  have c45b0 : ((l0_3.length : Int) == x5_2) = false := beq_eq_false_iff_ne.mpr c45
                  have c45b1 : ((l0_3.length : Int) != x5_2) = true := bne_iff_ne.mpr c45
                  have H' := Aside0.mk H
                  clear H
                  have hcz47_0 : wc.cell? ⟨gb101, 0, none⟩ = some (.int .i64 a0_0) := (blk_cell BK101.out 0).trans rfl
                  have hcz47_1 : wc.cell? ⟨gb101, 1, none⟩ = some (.int .i64 a0_1) := (blk_cell BK101.out 1).trans rfl
                  have hcz47_2 : wc.cell? ⟨gb101, 2, none⟩ = some (.string a0_2) := (blk_cell BK101.out 2).trans rfl
                  have hcz47_3 : wc.cell? ⟨gb101, 3, none⟩ = some (.slice A0_3 l0_3.length c0_3) := (blk_cell BK101.out 3).trans rfl
                  have hfz47_0 := blk_frozen BK101.out 0
                  have hfz47_1 := blk_frozen BK101.out 1
                  have hfz47_2 := blk_frozen BK101.out 2
                  have hfz47_3 := blk_frozen BK101.out 3
                  go_wp2
                  go_meet
                  case rel => exact ⟨_, (true), (by first | rfl | (simp; done) | (simp [*]; done)), H', ⟨by have := HJ2.out; first | omega | exact Nat.le_refl _⟩, ⟨by (with_reducible repeat (first | refine blk_drewN ?_ _ | refine blk_drew ?_ | refine blk_alloc ?_ _)); exact BK101.out⟩, ⟨by repeat (first | (with_reducible first | exact HB.out | apply below_alloc | apply pw_below_drewN | apply below_drew1 | refine below_set ?_ GE101.out) | exact HB.out)⟩⟩
              · rw [if_neg c44] at H
                have c44b0 : (a0_2.toList == ([] : List UInt8)) = false := beq_eq_false_iff_ne.mpr c44
                have c44b1 : (a0_2.toList != ([] : List UInt8)) = true := bne_iff_ne.mpr c44
                have H' := Aside0.mk H
                clear H
                have hcz48_0 : wc.cell? ⟨gb101, 0, none⟩ = some (.int .i64 a0_0) := (blk_cell BK101.out 0).trans rfl
                have hcz48_1 : wc.cell? ⟨gb101, 1, none⟩ = some (.int .i64 a0_1) := (blk_cell BK101.out 1).trans rfl
                have hcz48_2 : wc.cell? ⟨gb101, 2, none⟩ = some (.string a0_2) := (blk_cell BK101.out 2).trans rfl
                have hcz48_3 : wc.cell? ⟨gb101, 3, none⟩ = some (.slice A0_3 l0_3.length c0_3) := (blk_cell BK101.out 3).trans rfl
                have hfz48_0 := blk_frozen BK101.out 0
                have hfz48_1 := blk_frozen BK101.out 1
                have hfz48_2 := blk_frozen BK101.out 2
                have hfz48_3 := blk_frozen BK101.out 3
                go_wp2
                go_meet
                case rel => exact ⟨_, (true), (by first | rfl | (simp; done) | (simp [*]; done)), H', ⟨by have := HJ2.out; first | omega | exact Nat.le_refl _⟩, ⟨by (with_reducible repeat (first | refine blk_drewN ?_ _ | refine blk_drew ?_ | refine blk_alloc ?_ _)); exact BK101.out⟩, ⟨by repeat (first | (with_reducible first | exact HB.out | apply below_alloc | apply pw_below_drewN | apply below_drew1 | refine below_set ?_ GE101.out) | exact HB.out)⟩⟩
            · rw [if_neg c43] at H
              have c43b0 : (a0_1 == 0) = false := beq_eq_false_iff_ne.mpr c43
              have c43b1 : (a0_1 != 0) = true := bne_iff_ne.mpr c43
              have H' := Aside0.mk H
              clear H
              have hcz49_0 : wc.cell? ⟨gb101, 0, none⟩ = some (.int .i64 a0_0) := (blk_cell BK101.out 0).trans rfl
              have hcz49_1 : wc.cell? ⟨gb101, 1, none⟩ = some (.int .i64 a0_1) := (blk_cell BK101.out 1).trans rfl
              have hcz49_2 : wc.cell? ⟨gb101, 2, none⟩ = some (.string a0_2) := (blk_cell BK101.out 2).trans rfl
              have hcz49_3 : wc.cell? ⟨gb101, 3, none⟩ = some (.slice A0_3 l0_3.length c0_3) := (blk_cell BK101.out 3).trans rfl
              have hfz49_0 := blk_frozen BK101.out 0
              have hfz49_1 := blk_frozen BK101.out 1
              have hfz49_2 := blk_frozen BK101.out 2
              have hfz49_3 := blk_frozen BK101.out 3
              go_wp2
              go_meet
              case rel => exact ⟨_, (true), (by first | rfl | (simp; done) | (simp [*]; done)), H', ⟨by have := HJ2.out; first | omega | exact Nat.le_refl _⟩, ⟨by (with_reducible repeat (first | refine blk_drewN ?_ _ | refine blk_drew ?_ | refine blk_alloc ?_ _)); exact BK101.out⟩, ⟨by repeat (first | (with_reducible first | exact HB.out | apply below_alloc | apply pw_below_drewN | apply below_drew1 | refine below_set ?_ GE101.out) | exact HB.out)⟩⟩
      case rest =>
        clear HC38
        obtain ⟨kq, x81_37, rfl, HA, HJ37, BK101, HB⟩ := hcut
        cases kq with
        | zero => exact absurd HA.out (by simp [expr_tokens.j2])
        | succ kj37 =>
          have H := HA.out
          clear HA
          simp only [expr_tokens.j2] at H
          by_cases c50 : x81_37 = true
          · subst c50
            have H1 : (some (-1)) = some r := by rw [if_pos rfl] at H; exact H
            clear H
            have H := H1
            clear H1
            obtain rfl := Option.some.inj H
            go_wp2
            go_ret
            exact ⟨by first | rfl | (simp [errW_none, errW_some] <;> rfl) | (simp [*, errW_none, errW_some] <;> rfl), by repeat (first | (with_reducible first | exact HB.out | apply below_alloc | apply pw_below_drewN | apply below_drew1 | refine below_set ?_ GE101.out) | exact HB.out)⟩
          · replace c50 := Bool.eq_false_iff.mpr c50
            subst c50
            have H1 : (expr_tokens.l0 kj37 a1 1 l0_3 (l0_3.length : Int) 0 a0_0 a0_1 a0_2 l0_3) = some r := by rw [if_neg (show ¬ (false = true) by decide)] at H; exact H
            clear H
            have H := H1
            clear H1
            have H' := Aside0.mk H
            clear H
            have hcz51_0 : wc.cell? ⟨gb101, 0, none⟩ = some (.int .i64 a0_0) := (blk_cell BK101.out 0).trans rfl
            have hcz51_1 : wc.cell? ⟨gb101, 1, none⟩ = some (.int .i64 a0_1) := (blk_cell BK101.out 1).trans rfl
            have hcz51_2 : wc.cell? ⟨gb101, 2, none⟩ = some (.string a0_2) := (blk_cell BK101.out 2).trans rfl
            have hcz51_3 : wc.cell? ⟨gb101, 3, none⟩ = some (.slice A0_3 l0_3.length c0_3) := (blk_cell BK101.out 3).trans rfl
            have hfz51_0 := blk_frozen BK101.out 0
            have hfz51_1 := blk_frozen BK101.out 1
            have hfz51_2 := blk_frozen BK101.out 2
            have hfz51_3 := blk_frozen BK101.out 3
            go_wp2
            go_loopg [6, 85] kj37 (fun kq v6 v85 w' => ∃ (x6_3 : Int) (x85_3 : Int), v6 = .int .i64 x6_3 ∧ v85 = .int .i64 x85_3 ∧ Aside0 (expr_tokens.l0 kq a1 x6_3 l0_3 (l0_3.length : Int) x85_3 a0_0 a0_1 a0_2 l0_3 = some r) ∧ Aside0 (kq ≤ kj37) ∧ Aside0 (w'.heap[gb101]? = some (.cells #[.int .i64 a0_0, .int .i64 a0_1, .string a0_2, (.slice A0_3 l0_3.length c0_3)] 34 (0, 0))) ∧ Aside0 (Below w.heap.size w w'))
            case atStart => exact ⟨(1), (0), (by first | rfl | (simp; done) | (simp [*]; done)), (by first | rfl | (simp; done) | (simp [*]; done)), H', ⟨Nat.le_refl _⟩, ⟨by (with_reducible repeat (first | refine blk_drewN ?_ _ | refine blk_drew ?_ | refine blk_alloc ?_ _)); exact BK101.out⟩, ⟨by repeat (first | (with_reducible first | exact HB.out | apply below_alloc | apply pw_below_drewN | apply below_drew1 | refine below_set ?_ GE101.out) | exact HB.out)⟩⟩
            case round =>
              clear H'
              obtain ⟨x6_3, x85_3, rfl, rfl, HA, HK3, BK101, HB⟩ := hrel
              cases gk with
              | zero => exact absurd HA.out (by simp [expr_tokens.l0])
              | succ k3 =>
                have H := HA.out
                clear HA
                simp only [expr_tokens.l0] at H
                by_cases c52 : x85_3 < (l0_3.length : Int)
                · rw [if_pos c52] at H
                  have c52b0 : decide (x85_3 < (l0_3.length : Int)) = true := decide_eq_true c52
                  clear c52
                  by_cases c53 : 0 ≤ x85_3
                  · rw [if_pos c53] at H
                    have c53b0 : decide (0 ≤ x85_3) = true := decide_eq_true c53
                    clear c53
                    by_cases c54 : x85_3 < (l0_3.length : Int)
                    · rw [if_pos c54] at H
                      have c54b0 : decide (x85_3 < (l0_3.length : Int)) = true := decide_eq_true c54
                      clear c54
                      replace H := Option.bind_eq_some_iff.mp H
                      obtain ⟨t106, A550, H⟩ := H
                      replace H : (if t106 < 0 then (some (-1)) else ((expr_wrapped.f k3 a0_0 a0_1 a0_2 l0_3 x85_3).bind fun t107 => (if t107 = true then (if (wrap64 ((wrap64 (x6_3 + t106)) + 2)) > a1 then (some (-1)) else (expr_tokens.l0 k3 a1 (wrap64 ((wrap64 (x6_3 + t106)) + 2)) l0_3 (l0_3.length : Int) (wrap64 (x85_3 + 1)) a0_0 a0_1 a0_2 l0_3)) else (if (wrap64 (x6_3 + t106)) > a1 then (some (-1)) else (expr_tokens.l0 k3 a1 (wrap64 (x6_3 + t106)) l0_3 (l0_3.length : Int) (wrap64 (x85_3 + 1)) a0_0 a0_1 a0_2 l0_3))))) = some r := H
                      have A55 := Aside0.mk A550
                      clear A550
                      by_cases c56 : t106 < 0
                      · rw [if_pos c56] at H
                        have c56b0 : decide (t106 < 0) = true := decide_eq_true c56
                        clear c56
                        obtain rfl := Option.some.inj H
                        have p104 : 0 ≤ (x85_3 : Int) := of_decide_eq_true (by first | (with_reducible assumption) | assumption)
                        have q104 : x85_3 < (l0_3.length : Int) := of_decide_eq_true (by first | (with_reducible assumption) | assumption)
                        obtain ⟨ad104, A104_3, c104_3, e104, hx104_0, hx104_1, hx104_2, hx104_3, hl104_3, hi104_3⟩ := at_T34 HR0_3.out x85_3 p104 q104
                        cases e104
                        replace hx104_0 := (HB.out.cell (World.block_lt_of_cell? w _ hx104_0)).trans hx104_0
                        replace hx104_1 := (HB.out.cell (World.block_lt_of_cell? w _ hx104_1)).trans hx104_1
                        replace hx104_2 := (HB.out.cell (World.block_lt_of_cell? w _ hx104_2)).trans hx104_2
                        replace hx104_3 := (HB.out.cell (World.block_lt_of_cell? w _ hx104_3)).trans hx104_3
                        have HR104_3 := Aside0.mk hi104_3
                        have HC104_3 := Aside0.mk hl104_3
                        clear hi104_3 hl104_3
                        replace p104 := eq_true p104
                        replace q104 := eq_true q104
                        go_wp2_with (first | ((with_reducible refine gate_dst (N := 8) rfl ?_); (try (refine gate_guard (by rfl) ?_; dsimp only)); refine box_event ?hg (N := 8) ?hd (cs := #[.int .i64 0, .int .i64 0, .string (⟨#[]⟩ : ByteArray), .slice none 0 0]) (t := 34) ?hr ?_; (case hd => rfl); (case hg => rfl); (case hr => first | (go_simp; done) | (go_simp; rfl)); intro gb105 hg w57 hbox hb; have n0_ := Aside0.mk (blk_below (g := gb101) (o := .cells #[.int .i64 a0_0, .int .i64 a0_1, .string a0_2, .slice (some ad104) l0_3.length c0_3] 34 (0, 0)) (by (with_reducible repeat (first | refine blk_drewN ?_ _ | refine blk_drew ?_ | refine blk_alloc ?_ _)); exact BK101.out) hb); have n1_ := Aside0.mk (below_step (by repeat (first | (with_reducible first | exact HB.out | apply below_alloc | apply pw_below_drewN | apply below_drew1 | refine below_set ?_ GE101.out) | exact HB.out)) hb); have n2_ := Aside0.mk (hbox); have n3_ := Aside0.mk ((by rw [hg]; exact (below_size (by repeat (first | (with_reducible first | exact HB.out | apply below_alloc | apply pw_below_drewN | apply below_drew1 | refine below_set ?_ GE101.out) | exact HB.out))) : w.heap.size ≤ gb105)); have n4_ := Aside0.mk ((by rw [hg]; exact (below_size (by repeat (first | (with_reducible first | exact HB.out | apply below_alloc | apply pw_below_drewN | apply below_drew1 | refine below_set ?_ GE101.out) | exact HB.out))) : w.heap.size ≤ gb105)); have n5_ := Aside0.mk ((by rw [hg]; exact Nat.ne_of_lt (blk_lt (g := gb101) (o := .cells #[.int .i64 a0_0, .int .i64 a0_1, .string a0_2, .slice (some ad104) l0_3.length c0_3] 34 (0, 0)) (by (with_reducible repeat (first | refine blk_drewN ?_ _ | refine blk_drew ?_ | refine blk_alloc ?_ _)); exact BK101.out)) : gb101 ≠ gb105)); have n6_ := Aside0.mk ((by rw [hg]; exact Nat.ne_of_gt (blk_lt (g := gb101) (o := .cells #[.int .i64 a0_0, .int .i64 a0_1, .string a0_2, .slice (some ad104) l0_3.length c0_3] 34 (0, 0)) (by (with_reducible repeat (first | refine blk_drewN ?_ _ | refine blk_drew ?_ | refine blk_alloc ?_ _)); exact BK101.out)) : gb105 ≠ gb101)); clear BK101; clear HB; have BK101 := n0_; have HB := n1_; have BK105 := n2_; have GW105 := n3_; have GE105 := n4_; have NB101_105 := n5_; have NB105_101 := n6_; clear n0_ n1_ n2_ n3_ n4_ n5_ n6_; clear hb hbox hg; have hnb58 := NB105_101.out; have hnc58 := NB101_105.out; have hcz59_0 : w57.cell? ⟨gb105, 0, none⟩ = some (.int .i64 0) := (blk_cell BK105.out 0).trans rfl; have hcz59_1 : w57.cell? ⟨gb105, 1, none⟩ = some (.int .i64 0) := (blk_cell BK105.out 1).trans rfl; have hcz59_2 : w57.cell? ⟨gb105, 2, none⟩ = some (.string (⟨#[]⟩ : ByteArray)) := (blk_cell BK105.out 2).trans rfl; have hcz59_3 : w57.cell? ⟨gb105, 3, none⟩ = some (.slice none 0 0) := (blk_cell BK105.out 3).trans rfl; have hfz59_0 := blk_frozen BK105.out 0; have hfz59_1 := blk_frozen BK105.out 1; have hfz59_2 := blk_frozen BK105.out 2; have hfz59_3 := blk_frozen BK105.out 3) | ((with_reducible refine gate_callee (f := 63) rfl ?_); refine goesL_ (some 94) rfl rfl Tryd.func63 (by kernel_rfl) rfl #[.agg #[.int .i64 ((rd_T34 l0_3 x85_3).f0), .int .i64 ((rd_T34 l0_3 x85_3).f1), .string ((rd_T34 l0_3 x85_3).f2), .slice A104_3 ((rd_T34 l0_3 x85_3).f3).length c104_3], .int .i64 (wrap64 (a1 - x6_3))] rfl (by (try simp only [List.map_toArray, List.map_cons, List.map_nil]); first | done | rfl | (simp only [List.length_drop, List.length_take]; rfl)) ?_; (with_reducible refine (ih k3 (by have := HJ2.out; have := HJ37.out; have := HK3.out; omega) ((rd_T34 l0_3 x85_3).f0) ((rd_T34 l0_3 x85_3).f1) ((rd_T34 l0_3 x85_3).f2) _ _ ((rd_T34 l0_3 x85_3).f3) (wrap64 (a1 - x6_3)) t106 _ ?side1 ?side2 A55.out (by first | exact HT0.out | exact UT.below HT0.out (by repeat (first | (with_reducible first | exact HB.out | apply below_alloc | apply pw_below_drewN | apply below_drew1 | refine below_set ?_ GE101.out | refine below_set ?_ GE105.out) | exact HB.out)))).mono ?_); (case side1 => exact Kd.C_below HR104_3.out (by repeat (first | (with_reducible first | exact HB.out | apply below_alloc | apply pw_below_drewN | apply below_drew1 | refine below_set ?_ GE101.out | refine below_set ?_ GE105.out) | exact HB.out))); (case side2 => exact HC104_3.out); rintro e w60 ⟨rfl, hb⟩; refine ⟨_, rfl, ?_⟩; have n0_ := Aside0.mk (blk_below (g := gb101) (o := .cells #[.int .i64 a0_0, .int .i64 a0_1, .string a0_2, .slice (some ad104) l0_3.length c0_3] 34 (0, 0)) (by (with_reducible repeat (first | refine blk_drewN ?_ _ | refine blk_drew ?_ | refine blk_alloc ?_ _)); refine blk_far ?_ NB101_105.out _; (with_reducible repeat (first | refine blk_drewN ?_ _ | refine blk_drew ?_ | refine blk_alloc ?_ _)); refine blk_far ?_ NB101_105.out _; (with_reducible repeat (first | refine blk_drewN ?_ _ | refine blk_drew ?_ | refine blk_alloc ?_ _)); refine blk_far ?_ NB101_105.out _; (with_reducible repeat (first | refine blk_drewN ?_ _ | refine blk_drew ?_ | refine blk_alloc ?_ _)); refine blk_far ?_ NB101_105.out _; (with_reducible repeat (first | refine blk_drewN ?_ _ | refine blk_drew ?_ | refine blk_alloc ?_ _)); exact BK101.out) hb); have n1_ := Aside0.mk (blk_below (g := gb105) (o := .cells #[.int .i64 ((rd_T34 l0_3 x85_3).f0), .int .i64 ((rd_T34 l0_3 x85_3).f1), .string ((rd_T34 l0_3 x85_3).f2), .slice A104_3 ((rd_T34 l0_3 x85_3).f3).length c104_3] 34 (0, 0)) (by (with_reducible repeat (first | refine blk_drewN ?_ _ | refine blk_drew ?_ | refine blk_alloc ?_ _)); refine blk_put (cs := #[.int .i64 ((rd_T34 l0_3 x85_3).f0), .int .i64 ((rd_T34 l0_3 x85_3).f1), .string ((rd_T34 l0_3 x85_3).f2), .slice none 0 0]) ?_ 3 _ rfl; (with_reducible repeat (first | refine blk_drewN ?_ _ | refine blk_drew ?_ | refine blk_alloc ?_ _)); refine blk_put (cs := #[.int .i64 ((rd_T34 l0_3 x85_3).f0), .int .i64 ((rd_T34 l0_3 x85_3).f1), .string (⟨#[]⟩ : ByteArray), .slice none 0 0]) ?_ 2 _ rfl; (with_reducible repeat (first | refine blk_drewN ?_ _ | refine blk_drew ?_ | refine blk_alloc ?_ _)); refine blk_put (cs := #[.int .i64 ((rd_T34 l0_3 x85_3).f0), .int .i64 0, .string (⟨#[]⟩ : ByteArray), .slice none 0 0]) ?_ 1 _ rfl; (with_reducible repeat (first | refine blk_drewN ?_ _ | refine blk_drew ?_ | refine blk_alloc ?_ _)); refine blk_put (cs := #[.int .i64 0, .int .i64 0, .string (⟨#[]⟩ : ByteArray), .slice none 0 0]) ?_ 0 _ rfl; (with_reducible repeat (first | refine blk_drewN ?_ _ | refine blk_drew ?_ | refine blk_alloc ?_ _)); exact BK105.out) hb); have n2_ := Aside0.mk (below_step (by repeat (first | (with_reducible first | exact HB.out | apply below_alloc | apply pw_below_drewN | apply below_drew1 | refine below_set ?_ GE101.out | refine below_set ?_ GE105.out) | exact HB.out)) hb); clear BK101; clear BK105; clear HB; have BK101 := n0_; have BK105 := n1_; have HB := n2_; clear n0_ n1_ n2_; (try clear hb); (try clear hb2); (try clear hk); (try clear hi)))
                        go_ret
                        exact ⟨by first | rfl | (simp [errW_none, errW_some] <;> rfl) | (simp [*, errW_none, errW_some] <;> rfl), by repeat (first | (with_reducible first | exact HB.out | apply below_alloc | apply pw_below_drewN | apply below_drew1 | refine below_set ?_ GE101.out | refine below_set ?_ GE105.out) | exact HB.out)⟩
                      · rw [if_neg c56] at H
                        have c56b0 : decide (t106 < 0) = false := decide_eq_false c56
                        clear c56
                        replace H := Option.bind_eq_some_iff.mp H
                        obtain ⟨t107, A610, H⟩ := H
                        replace H : (if t107 = true then (if (wrap64 ((wrap64 (x6_3 + t106)) + 2)) > a1 then (some (-1)) else (expr_tokens.l0 k3 a1 (wrap64 ((wrap64 (x6_3 + t106)) + 2)) l0_3 (l0_3.length : Int) (wrap64 (x85_3 + 1)) a0_0 a0_1 a0_2 l0_3)) else (if (wrap64 (x6_3 + t106)) > a1 then (some (-1)) else (expr_tokens.l0 k3 a1 (wrap64 (x6_3 + t106)) l0_3 (l0_3.length : Int) (wrap64 (x85_3 + 1)) a0_0 a0_1 a0_2 l0_3))) = some r := H
                        have A61 := Aside0.mk A610
                        clear A610
                        by_cases c62 : t107 = true
                        · subst c62
                          have H1 : (if (wrap64 ((wrap64 (x6_3 + t106)) + 2)) > a1 then (some (-1)) else (expr_tokens.l0 k3 a1 (wrap64 ((wrap64 (x6_3 + t106)) + 2)) l0_3 (l0_3.length : Int) (wrap64 (x85_3 + 1)) a0_0 a0_1 a0_2 l0_3)) = some r := by rw [if_pos rfl] at H; exact H
                          clear H
                          have H := H1
                          clear H1
                          by_cases c63 : (wrap64 ((wrap64 (x6_3 + t106)) + 2)) > a1
                          · rw [if_pos c63] at H
                            have c63b0 : decide (a1 < (wrap64 ((wrap64 (x6_3 + t106)) + 2))) = true := decide_eq_true c63
                            clear c63
                            obtain rfl := Option.some.inj H
                            have p104 : 0 ≤ (x85_3 : Int) := of_decide_eq_true (by first | (with_reducible assumption) | assumption)
                            have q104 : x85_3 < (l0_3.length : Int) := of_decide_eq_true (by first | (with_reducible assumption) | assumption)
                            obtain ⟨ad104, A104_3, c104_3, e104, hx104_0, hx104_1, hx104_2, hx104_3, hl104_3, hi104_3⟩ := at_T34 HR0_3.out x85_3 p104 q104
                            cases e104
                            replace hx104_0 := (HB.out.cell (World.block_lt_of_cell? w _ hx104_0)).trans hx104_0
                            replace hx104_1 := (HB.out.cell (World.block_lt_of_cell? w _ hx104_1)).trans hx104_1
                            replace hx104_2 := (HB.out.cell (World.block_lt_of_cell? w _ hx104_2)).trans hx104_2
                            replace hx104_3 := (HB.out.cell (World.block_lt_of_cell? w _ hx104_3)).trans hx104_3
                            have HR104_3 := Aside0.mk hi104_3
                            have HC104_3 := Aside0.mk hl104_3
                            clear hi104_3 hl104_3
                            replace p104 := eq_true p104
                            replace q104 := eq_true q104
                            go_wp2_with (first | ((with_reducible refine gate_dst (N := 8) rfl ?_); (try (refine gate_guard (by rfl) ?_; dsimp only)); refine box_event ?hg (N := 8) ?hd (cs := #[.int .i64 0, .int .i64 0, .string (⟨#[]⟩ : ByteArray), .slice none 0 0]) (t := 34) ?hr ?_; (case hd => rfl); (case hg => rfl); (case hr => first | (go_simp; done) | (go_simp; rfl)); intro gb105 hg w64 hbox hb; have n0_ := Aside0.mk (blk_below (g := gb101) (o := .cells #[.int .i64 a0_0, .int .i64 a0_1, .string a0_2, .slice (some ad104) l0_3.length c0_3] 34 (0, 0)) (by (with_reducible repeat (first | refine blk_drewN ?_ _ | refine blk_drew ?_ | refine blk_alloc ?_ _)); exact BK101.out) hb); have n1_ := Aside0.mk (below_step (by repeat (first | (with_reducible first | exact HB.out | apply below_alloc | apply pw_below_drewN | apply below_drew1 | refine below_set ?_ GE101.out) | exact HB.out)) hb); have n2_ := Aside0.mk (hbox); have n3_ := Aside0.mk ((by rw [hg]; exact (below_size (by repeat (first | (with_reducible first | exact HB.out | apply below_alloc | apply pw_below_drewN | apply below_drew1 | refine below_set ?_ GE101.out) | exact HB.out))) : w.heap.size ≤ gb105)); have n4_ := Aside0.mk ((by rw [hg]; exact (below_size (by repeat (first | (with_reducible first | exact HB.out | apply below_alloc | apply pw_below_drewN | apply below_drew1 | refine below_set ?_ GE101.out) | exact HB.out))) : w.heap.size ≤ gb105)); have n5_ := Aside0.mk ((by rw [hg]; exact Nat.ne_of_lt (blk_lt (g := gb101) (o := .cells #[.int .i64 a0_0, .int .i64 a0_1, .string a0_2, .slice (some ad104) l0_3.length c0_3] 34 (0, 0)) (by (with_reducible repeat (first | refine blk_drewN ?_ _ | refine blk_drew ?_ | refine blk_alloc ?_ _)); exact BK101.out)) : gb101 ≠ gb105)); have n6_ := Aside0.mk ((by rw [hg]; exact Nat.ne_of_gt (blk_lt (g := gb101) (o := .cells #[.int .i64 a0_0, .int .i64 a0_1, .string a0_2, .slice (some ad104) l0_3.length c0_3] 34 (0, 0)) (by (with_reducible repeat (first | refine blk_drewN ?_ _ | refine blk_drew ?_ | refine blk_alloc ?_ _)); exact BK101.out)) : gb105 ≠ gb101)); clear BK101; clear HB; have BK101 := n0_; have HB := n1_; have BK105 := n2_; have GW105 := n3_; have GE105 := n4_; have NB101_105 := n5_; have NB105_101 := n6_; clear n0_ n1_ n2_ n3_ n4_ n5_ n6_; clear hb hbox hg; have hnb65 := NB105_101.out; have hnc65 := NB101_105.out; have hcz66_0 : w64.cell? ⟨gb105, 0, none⟩ = some (.int .i64 0) := (blk_cell BK105.out 0).trans rfl; have hcz66_1 : w64.cell? ⟨gb105, 1, none⟩ = some (.int .i64 0) := (blk_cell BK105.out 1).trans rfl; have hcz66_2 : w64.cell? ⟨gb105, 2, none⟩ = some (.string (⟨#[]⟩ : ByteArray)) := (blk_cell BK105.out 2).trans rfl; have hcz66_3 : w64.cell? ⟨gb105, 3, none⟩ = some (.slice none 0 0) := (blk_cell BK105.out 3).trans rfl; have hfz66_0 := blk_frozen BK105.out 0; have hfz66_1 := blk_frozen BK105.out 1; have hfz66_2 := blk_frozen BK105.out 2; have hfz66_3 := blk_frozen BK105.out 3) | ((with_reducible refine gate_callee (f := 63) rfl ?_); refine goesL_ (some 94) rfl rfl Tryd.func63 (by kernel_rfl) rfl #[.agg #[.int .i64 ((rd_T34 l0_3 x85_3).f0), .int .i64 ((rd_T34 l0_3 x85_3).f1), .string ((rd_T34 l0_3 x85_3).f2), .slice A104_3 ((rd_T34 l0_3 x85_3).f3).length c104_3], .int .i64 (wrap64 (a1 - x6_3))] rfl (by (try simp only [List.map_toArray, List.map_cons, List.map_nil]); first | done | rfl | (simp only [List.length_drop, List.length_take]; rfl)) ?_; (with_reducible refine (ih k3 (by have := HJ2.out; have := HJ37.out; have := HK3.out; omega) ((rd_T34 l0_3 x85_3).f0) ((rd_T34 l0_3 x85_3).f1) ((rd_T34 l0_3 x85_3).f2) _ _ ((rd_T34 l0_3 x85_3).f3) (wrap64 (a1 - x6_3)) t106 _ ?side1 ?side2 A55.out (by first | exact HT0.out | exact UT.below HT0.out (by repeat (first | (with_reducible first | exact HB.out | apply below_alloc | apply pw_below_drewN | apply below_drew1 | refine below_set ?_ GE101.out | refine below_set ?_ GE105.out) | exact HB.out)))).mono ?_); (case side1 => exact Kd.C_below HR104_3.out (by repeat (first | (with_reducible first | exact HB.out | apply below_alloc | apply pw_below_drewN | apply below_drew1 | refine below_set ?_ GE101.out | refine below_set ?_ GE105.out) | exact HB.out))); (case side2 => exact HC104_3.out); rintro e w67 ⟨rfl, hb⟩; refine ⟨_, rfl, ?_⟩; have n0_ := Aside0.mk (blk_below (g := gb101) (o := .cells #[.int .i64 a0_0, .int .i64 a0_1, .string a0_2, .slice (some ad104) l0_3.length c0_3] 34 (0, 0)) (by (with_reducible repeat (first | refine blk_drewN ?_ _ | refine blk_drew ?_ | refine blk_alloc ?_ _)); refine blk_far ?_ NB101_105.out _; (with_reducible repeat (first | refine blk_drewN ?_ _ | refine blk_drew ?_ | refine blk_alloc ?_ _)); refine blk_far ?_ NB101_105.out _; (with_reducible repeat (first | refine blk_drewN ?_ _ | refine blk_drew ?_ | refine blk_alloc ?_ _)); refine blk_far ?_ NB101_105.out _; (with_reducible repeat (first | refine blk_drewN ?_ _ | refine blk_drew ?_ | refine blk_alloc ?_ _)); refine blk_far ?_ NB101_105.out _; (with_reducible repeat (first | refine blk_drewN ?_ _ | refine blk_drew ?_ | refine blk_alloc ?_ _)); exact BK101.out) hb); have n1_ := Aside0.mk (blk_below (g := gb105) (o := .cells #[.int .i64 ((rd_T34 l0_3 x85_3).f0), .int .i64 ((rd_T34 l0_3 x85_3).f1), .string ((rd_T34 l0_3 x85_3).f2), .slice A104_3 ((rd_T34 l0_3 x85_3).f3).length c104_3] 34 (0, 0)) (by (with_reducible repeat (first | refine blk_drewN ?_ _ | refine blk_drew ?_ | refine blk_alloc ?_ _)); refine blk_put (cs := #[.int .i64 ((rd_T34 l0_3 x85_3).f0), .int .i64 ((rd_T34 l0_3 x85_3).f1), .string ((rd_T34 l0_3 x85_3).f2), .slice none 0 0]) ?_ 3 _ rfl; (with_reducible repeat (first | refine blk_drewN ?_ _ | refine blk_drew ?_ | refine blk_alloc ?_ _)); refine blk_put (cs := #[.int .i64 ((rd_T34 l0_3 x85_3).f0), .int .i64 ((rd_T34 l0_3 x85_3).f1), .string (⟨#[]⟩ : ByteArray), .slice none 0 0]) ?_ 2 _ rfl; (with_reducible repeat (first | refine blk_drewN ?_ _ | refine blk_drew ?_ | refine blk_alloc ?_ _)); refine blk_put (cs := #[.int .i64 ((rd_T34 l0_3 x85_3).f0), .int .i64 0, .string (⟨#[]⟩ : ByteArray), .slice none 0 0]) ?_ 1 _ rfl; (with_reducible repeat (first | refine blk_drewN ?_ _ | refine blk_drew ?_ | refine blk_alloc ?_ _)); refine blk_put (cs := #[.int .i64 0, .int .i64 0, .string (⟨#[]⟩ : ByteArray), .slice none 0 0]) ?_ 0 _ rfl; (with_reducible repeat (first | refine blk_drewN ?_ _ | refine blk_drew ?_ | refine blk_alloc ?_ _)); exact BK105.out) hb); have n2_ := Aside0.mk (below_step (by repeat (first | (with_reducible first | exact HB.out | apply below_alloc | apply pw_below_drewN | apply below_drew1 | refine below_set ?_ GE101.out | refine below_set ?_ GE105.out) | exact HB.out)) hb); clear BK101; clear BK105; clear HB; have BK101 := n0_; have BK105 := n1_; have HB := n2_; clear n0_ n1_ n2_; (try clear hb); (try clear hb2); (try clear hk); (try clear hi); have hcz68_0 : w67.cell? ⟨gb101, 0, none⟩ = some (.int .i64 a0_0) := (blk_cell BK101.out 0).trans rfl; have hcz68_1 : w67.cell? ⟨gb101, 1, none⟩ = some (.int .i64 a0_1) := (blk_cell BK101.out 1).trans rfl; have hcz68_2 : w67.cell? ⟨gb101, 2, none⟩ = some (.string a0_2) := (blk_cell BK101.out 2).trans rfl; have hcz68_3 : w67.cell? ⟨gb101, 3, none⟩ = some (.slice (some ad104) l0_3.length c0_3) := (blk_cell BK101.out 3).trans rfl; have hfz68_0 := blk_frozen BK101.out 0; have hfz68_1 := blk_frozen BK101.out 1; have hfz68_2 := blk_frozen BK101.out 2; have hfz68_3 := blk_frozen BK101.out 3) | ((with_reducible refine gate_callee (f := 96) rfl ?_); refine goesL_ (some 102) rfl rfl Tryd.func96 (by kernel_rfl) rfl #[.agg #[.int .i64 a0_0, .int .i64 a0_1, .string a0_2, .slice (some ad104) l0_3.length c0_3], .int .i64 x85_3] rfl (by (try simp only [List.map_toArray, List.map_cons, List.map_nil]); first | done | rfl | (simp only [List.length_drop, List.length_take]; rfl)) ?_; (with_reducible refine (expr_wrapped.calls k3 a0_0 a0_1 a0_2 _ _ l0_3 x85_3 true _ ?side1 ?side2 A61.out).mono ?_); (case side1 => repeat (first | exact (Kd.C_below HR0_3.out HB.out) | (with_reducible refine Kd.C_alloc ?_ _) | (with_reducible refine Kd.C_drewN ?_ _) | (with_reducible refine Kd.C_drew ?_))); (case side2 => exact HC0_3.out); rintro e w69 ⟨rfl, hb⟩; refine ⟨_, rfl, ?_⟩; have n0_ := Aside0.mk (blk_below (g := gb101) (o := .cells #[.int .i64 a0_0, .int .i64 a0_1, .string a0_2, .slice (some ad104) l0_3.length c0_3] 34 (0, 0)) (by (with_reducible repeat (first | refine blk_drewN ?_ _ | refine blk_drew ?_ | refine blk_alloc ?_ _)); exact BK101.out) hb); have n1_ := Aside0.mk (blk_below (g := gb105) (o := .cells #[.int .i64 ((rd_T34 l0_3 x85_3).f0), .int .i64 ((rd_T34 l0_3 x85_3).f1), .string ((rd_T34 l0_3 x85_3).f2), .slice A104_3 ((rd_T34 l0_3 x85_3).f3).length c104_3] 34 (0, 0)) (by (with_reducible repeat (first | refine blk_drewN ?_ _ | refine blk_drew ?_ | refine blk_alloc ?_ _)); exact BK105.out) hb); have n2_ := Aside0.mk (below_step (by repeat (first | (with_reducible first | exact HB.out | apply below_alloc | apply pw_below_drewN | apply below_drew1 | refine below_set ?_ GE101.out | refine below_set ?_ GE105.out) | exact HB.out)) hb); clear BK101; clear BK105; clear HB; have BK101 := n0_; have BK105 := n1_; have HB := n2_; clear n0_ n1_ n2_; (try clear hb); (try clear hb2); (try clear hk); (try clear hi)))
                            go_ret
                            exact ⟨by first | rfl | (simp [errW_none, errW_some] <;> rfl) | (simp [*, errW_none, errW_some] <;> rfl), by repeat (first | (with_reducible first | exact HB.out | apply below_alloc | apply pw_below_drewN | apply below_drew1 | refine below_set ?_ GE101.out | refine below_set ?_ GE105.out) | exact HB.out)⟩
                          · rw [if_neg c63] at H
                            have c63b0 : decide (a1 < (wrap64 ((wrap64 (x6_3 + t106)) + 2))) = false := decide_eq_false c63
                            clear c63
                            have H' := Aside0.mk H
                            clear H
                            have p104 : 0 ≤ (x85_3 : Int) := of_decide_eq_true (by first | (with_reducible assumption) | assumption)
                            have q104 : x85_3 < (l0_3.length : Int) := of_decide_eq_true (by first | (with_reducible assumption) | assumption)
                            obtain ⟨ad104, A104_3, c104_3, e104, hx104_0, hx104_1, hx104_2, hx104_3, hl104_3, hi104_3⟩ := at_T34 HR0_3.out x85_3 p104 q104
                            cases e104
                            replace hx104_0 := (HB.out.cell (World.block_lt_of_cell? w _ hx104_0)).trans hx104_0
                            replace hx104_1 := (HB.out.cell (World.block_lt_of_cell? w _ hx104_1)).trans hx104_1
                            replace hx104_2 := (HB.out.cell (World.block_lt_of_cell? w _ hx104_2)).trans hx104_2
                            replace hx104_3 := (HB.out.cell (World.block_lt_of_cell? w _ hx104_3)).trans hx104_3
                            have HR104_3 := Aside0.mk hi104_3
                            have HC104_3 := Aside0.mk hl104_3
                            clear hi104_3 hl104_3
                            replace p104 := eq_true p104
                            replace q104 := eq_true q104
                            go_wp2_with (first | ((with_reducible refine gate_dst (N := 8) rfl ?_); (try (refine gate_guard (by rfl) ?_; dsimp only)); refine box_event ?hg (N := 8) ?hd (cs := #[.int .i64 0, .int .i64 0, .string (⟨#[]⟩ : ByteArray), .slice none 0 0]) (t := 34) ?hr ?_; (case hd => rfl); (case hg => rfl); (case hr => first | (go_simp; done) | (go_simp; rfl)); intro gb105 hg w70 hbox hb; have n0_ := Aside0.mk (blk_below (g := gb101) (o := .cells #[.int .i64 a0_0, .int .i64 a0_1, .string a0_2, .slice (some ad104) l0_3.length c0_3] 34 (0, 0)) (by (with_reducible repeat (first | refine blk_drewN ?_ _ | refine blk_drew ?_ | refine blk_alloc ?_ _)); exact BK101.out) hb); have n1_ := Aside0.mk (below_step (by repeat (first | (with_reducible first | exact HB.out | apply below_alloc | apply pw_below_drewN | apply below_drew1 | refine below_set ?_ GE101.out) | exact HB.out)) hb); have n2_ := Aside0.mk (hbox); have n3_ := Aside0.mk ((by rw [hg]; exact (below_size (by repeat (first | (with_reducible first | exact HB.out | apply below_alloc | apply pw_below_drewN | apply below_drew1 | refine below_set ?_ GE101.out) | exact HB.out))) : w.heap.size ≤ gb105)); have n4_ := Aside0.mk ((by rw [hg]; exact (below_size (by repeat (first | (with_reducible first | exact HB.out | apply below_alloc | apply pw_below_drewN | apply below_drew1 | refine below_set ?_ GE101.out) | exact HB.out))) : w.heap.size ≤ gb105)); have n5_ := Aside0.mk ((by rw [hg]; exact Nat.ne_of_lt (blk_lt (g := gb101) (o := .cells #[.int .i64 a0_0, .int .i64 a0_1, .string a0_2, .slice (some ad104) l0_3.length c0_3] 34 (0, 0)) (by (with_reducible repeat (first | refine blk_drewN ?_ _ | refine blk_drew ?_ | refine blk_alloc ?_ _)); exact BK101.out)) : gb101 ≠ gb105)); have n6_ := Aside0.mk ((by rw [hg]; exact Nat.ne_of_gt (blk_lt (g := gb101) (o := .cells #[.int .i64 a0_0, .int .i64 a0_1, .string a0_2, .slice (some ad104) l0_3.length c0_3] 34 (0, 0)) (by (with_reducible repeat (first | refine blk_drewN ?_ _ | refine blk_drew ?_ | refine blk_alloc ?_ _)); exact BK101.out)) : gb105 ≠ gb101)); clear BK101; clear HB; have BK101 := n0_; have HB := n1_; have BK105 := n2_; have GW105 := n3_; have GE105 := n4_; have NB101_105 := n5_; have NB105_101 := n6_; clear n0_ n1_ n2_ n3_ n4_ n5_ n6_; clear hb hbox hg; have hnb71 := NB105_101.out; have hnc71 := NB101_105.out; have hcz72_0 : w70.cell? ⟨gb105, 0, none⟩ = some (.int .i64 0) := (blk_cell BK105.out 0).trans rfl; have hcz72_1 : w70.cell? ⟨gb105, 1, none⟩ = some (.int .i64 0) := (blk_cell BK105.out 1).trans rfl; have hcz72_2 : w70.cell? ⟨gb105, 2, none⟩ = some (.string (⟨#[]⟩ : ByteArray)) := (blk_cell BK105.out 2).trans rfl; have hcz72_3 : w70.cell? ⟨gb105, 3, none⟩ = some (.slice none 0 0) := (blk_cell BK105.out 3).trans rfl; have hfz72_0 := blk_frozen BK105.out 0; have hfz72_1 := blk_frozen BK105.out 1; have hfz72_2 := blk_frozen BK105.out 2; have hfz72_3 := blk_frozen BK105.out 3) | ((with_reducible refine gate_callee (f := 63) rfl ?_); refine goesL_ (some 94) rfl rfl Tryd.func63 (by kernel_rfl) rfl #[.agg #[.int .i64 ((rd_T34 l0_3 x85_3).f0), .int .i64 ((rd_T34 l0_3 x85_3).f1), .string ((rd_T34 l0_3 x85_3).f2), .slice A104_3 ((rd_T34 l0_3 x85_3).f3).length c104_3], .int .i64 (wrap64 (a1 - x6_3))] rfl (by (try simp only [List.map_toArray, List.map_cons, List.map_nil]); first | done | rfl | (simp only [List.length_drop, List.length_take]; rfl)) ?_; (with_reducible refine (ih k3 (by have := HJ2.out; have := HJ37.out; have := HK3.out; omega) ((rd_T34 l0_3 x85_3).f0) ((rd_T34 l0_3 x85_3).f1) ((rd_T34 l0_3 x85_3).f2) _ _ ((rd_T34 l0_3 x85_3).f3) (wrap64 (a1 - x6_3)) t106 _ ?side1 ?side2 A55.out (by first | exact HT0.out | exact UT.below HT0.out (by repeat (first | (with_reducible first | exact HB.out | apply below_alloc | apply pw_below_drewN | apply below_drew1 | refine below_set ?_ GE101.out | refine below_set ?_ GE105.out) | exact HB.out)))).mono ?_); (case side1 => exact Kd.C_below HR104_3.out (by repeat (first | (with_reducible first | exact HB.out | apply below_alloc | apply pw_below_drewN | apply below_drew1 | refine below_set ?_ GE101.out | refine below_set ?_ GE105.out) | exact HB.out))); (case side2 => exact HC104_3.out); rintro e w73 ⟨rfl, hb⟩; refine ⟨_, rfl, ?_⟩; have n0_ := Aside0.mk (blk_below (g := gb101) (o := .cells #[.int .i64 a0_0, .int .i64 a0_1, .string a0_2, .slice (some ad104) l0_3.length c0_3] 34 (0, 0)) (by (with_reducible repeat (first | refine blk_drewN ?_ _ | refine blk_drew ?_ | refine blk_alloc ?_ _)); refine blk_far ?_ NB101_105.out _; (with_reducible repeat (first | refine blk_drewN ?_ _ | refine blk_drew ?_ | refine blk_alloc ?_ _)); refine blk_far ?_ NB101_105.out _; (with_reducible repeat (first | refine blk_drewN ?_ _ | refine blk_drew ?_ | refine blk_alloc ?_ _)); refine blk_far ?_ NB101_105.out _; (with_reducible repeat (first | refine blk_drewN ?_ _ | refine blk_drew ?_ | refine blk_alloc ?_ _)); refine blk_far ?_ NB101_105.out _; (with_reducible repeat (first | refine blk_drewN ?_ _ | refine blk_drew ?_ | refine blk_alloc ?_ _)); exact BK101.out) hb); have n1_ := Aside0.mk (blk_below (g := gb105) (o := .cells #[.int .i64 ((rd_T34 l0_3 x85_3).f0), .int .i64 ((rd_T34 l0_3 x85_3).f1), .string ((rd_T34 l0_3 x85_3).f2), .slice A104_3 ((rd_T34 l0_3 x85_3).f3).length c104_3] 34 (0, 0)) (by (with_reducible repeat (first | refine blk_drewN ?_ _ | refine blk_drew ?_ | refine blk_alloc ?_ _)); refine blk_put (cs := #[.int .i64 ((rd_T34 l0_3 x85_3).f0), .int .i64 ((rd_T34 l0_3 x85_3).f1), .string ((rd_T34 l0_3 x85_3).f2), .slice none 0 0]) ?_ 3 _ rfl; (with_reducible repeat (first | refine blk_drewN ?_ _ | refine blk_drew ?_ | refine blk_alloc ?_ _)); refine blk_put (cs := #[.int .i64 ((rd_T34 l0_3 x85_3).f0), .int .i64 ((rd_T34 l0_3 x85_3).f1), .string (⟨#[]⟩ : ByteArray), .slice none 0 0]) ?_ 2 _ rfl; (with_reducible repeat (first | refine blk_drewN ?_ _ | refine blk_drew ?_ | refine blk_alloc ?_ _)); refine blk_put (cs := #[.int .i64 ((rd_T34 l0_3 x85_3).f0), .int .i64 0, .string (⟨#[]⟩ : ByteArray), .slice none 0 0]) ?_ 1 _ rfl; (with_reducible repeat (first | refine blk_drewN ?_ _ | refine blk_drew ?_ | refine blk_alloc ?_ _)); refine blk_put (cs := #[.int .i64 0, .int .i64 0, .string (⟨#[]⟩ : ByteArray), .slice none 0 0]) ?_ 0 _ rfl; (with_reducible repeat (first | refine blk_drewN ?_ _ | refine blk_drew ?_ | refine blk_alloc ?_ _)); exact BK105.out) hb); have n2_ := Aside0.mk (below_step (by repeat (first | (with_reducible first | exact HB.out | apply below_alloc | apply pw_below_drewN | apply below_drew1 | refine below_set ?_ GE101.out | refine below_set ?_ GE105.out) | exact HB.out)) hb); clear BK101; clear BK105; clear HB; have BK101 := n0_; have BK105 := n1_; have HB := n2_; clear n0_ n1_ n2_; (try clear hb); (try clear hb2); (try clear hk); (try clear hi); have hcz74_0 : w73.cell? ⟨gb101, 0, none⟩ = some (.int .i64 a0_0) := (blk_cell BK101.out 0).trans rfl; have hcz74_1 : w73.cell? ⟨gb101, 1, none⟩ = some (.int .i64 a0_1) := (blk_cell BK101.out 1).trans rfl; have hcz74_2 : w73.cell? ⟨gb101, 2, none⟩ = some (.string a0_2) := (blk_cell BK101.out 2).trans rfl; have hcz74_3 : w73.cell? ⟨gb101, 3, none⟩ = some (.slice (some ad104) l0_3.length c0_3) := (blk_cell BK101.out 3).trans rfl; have hfz74_0 := blk_frozen BK101.out 0; have hfz74_1 := blk_frozen BK101.out 1; have hfz74_2 := blk_frozen BK101.out 2; have hfz74_3 := blk_frozen BK101.out 3) | ((with_reducible refine gate_callee (f := 96) rfl ?_); refine goesL_ (some 102) rfl rfl Tryd.func96 (by kernel_rfl) rfl #[.agg #[.int .i64 a0_0, .int .i64 a0_1, .string a0_2, .slice (some ad104) l0_3.length c0_3], .int .i64 x85_3] rfl (by (try simp only [List.map_toArray, List.map_cons, List.map_nil]); first | done | rfl | (simp only [List.length_drop, List.length_take]; rfl)) ?_; (with_reducible refine (expr_wrapped.calls k3 a0_0 a0_1 a0_2 _ _ l0_3 x85_3 true _ ?side1 ?side2 A61.out).mono ?_); (case side1 => repeat (first | exact (Kd.C_below HR0_3.out HB.out) | (with_reducible refine Kd.C_alloc ?_ _) | (with_reducible refine Kd.C_drewN ?_ _) | (with_reducible refine Kd.C_drew ?_))); (case side2 => exact HC0_3.out); rintro e w75 ⟨rfl, hb⟩; refine ⟨_, rfl, ?_⟩; have n0_ := Aside0.mk (blk_below (g := gb101) (o := .cells #[.int .i64 a0_0, .int .i64 a0_1, .string a0_2, .slice (some ad104) l0_3.length c0_3] 34 (0, 0)) (by (with_reducible repeat (first | refine blk_drewN ?_ _ | refine blk_drew ?_ | refine blk_alloc ?_ _)); exact BK101.out) hb); have n1_ := Aside0.mk (blk_below (g := gb105) (o := .cells #[.int .i64 ((rd_T34 l0_3 x85_3).f0), .int .i64 ((rd_T34 l0_3 x85_3).f1), .string ((rd_T34 l0_3 x85_3).f2), .slice A104_3 ((rd_T34 l0_3 x85_3).f3).length c104_3] 34 (0, 0)) (by (with_reducible repeat (first | refine blk_drewN ?_ _ | refine blk_drew ?_ | refine blk_alloc ?_ _)); exact BK105.out) hb); have n2_ := Aside0.mk (below_step (by repeat (first | (with_reducible first | exact HB.out | apply below_alloc | apply pw_below_drewN | apply below_drew1 | refine below_set ?_ GE101.out | refine below_set ?_ GE105.out) | exact HB.out)) hb); clear BK101; clear BK105; clear HB; have BK101 := n0_; have BK105 := n1_; have HB := n2_; clear n0_ n1_ n2_; (try clear hb); (try clear hb2); (try clear hk); (try clear hi)))
                            go_roundg k3
                            case measure => have := HJ2.out; have := HJ37.out; have := HK3.out; omega
                            case rel => exact ⟨(wrap64 ((wrap64 (x6_3 + t106)) + 2)), (wrap64 (x85_3 + 1)), (by first | rfl | (simp; done) | (simp [*]; done)), (by first | rfl | (simp; done) | (simp [*]; done)), H', ⟨by have := HJ2.out; have := HJ37.out; have := HK3.out; omega⟩, ⟨by (with_reducible repeat (first | refine blk_drewN ?_ _ | refine blk_drew ?_ | refine blk_alloc ?_ _)); exact BK101.out⟩, ⟨by repeat (first | (with_reducible first | exact HB.out | apply below_alloc | apply pw_below_drewN | apply below_drew1 | refine below_set ?_ GE101.out | refine below_set ?_ GE105.out) | exact HB.out)⟩⟩
                        · replace c62 := Bool.eq_false_iff.mpr c62
                          subst c62
                          have H1 : (if (wrap64 (x6_3 + t106)) > a1 then (some (-1)) else (expr_tokens.l0 k3 a1 (wrap64 (x6_3 + t106)) l0_3 (l0_3.length : Int) (wrap64 (x85_3 + 1)) a0_0 a0_1 a0_2 l0_3)) = some r := by rw [if_neg (show ¬ (false = true) by decide)] at H; exact H
                          clear H
                          have H := H1
                          clear H1
                          by_cases c76 : (wrap64 (x6_3 + t106)) > a1
                          · rw [if_pos c76] at H
                            have c76b0 : decide (a1 < (wrap64 (x6_3 + t106))) = true := decide_eq_true c76
                            clear c76
                            obtain rfl := Option.some.inj H
                            have p104 : 0 ≤ (x85_3 : Int) := of_decide_eq_true (by first | (with_reducible assumption) | assumption)
                            have q104 : x85_3 < (l0_3.length : Int) := of_decide_eq_true (by first | (with_reducible assumption) | assumption)
                            obtain ⟨ad104, A104_3, c104_3, e104, hx104_0, hx104_1, hx104_2, hx104_3, hl104_3, hi104_3⟩ := at_T34 HR0_3.out x85_3 p104 q104
                            cases e104
                            replace hx104_0 := (HB.out.cell (World.block_lt_of_cell? w _ hx104_0)).trans hx104_0
                            replace hx104_1 := (HB.out.cell (World.block_lt_of_cell? w _ hx104_1)).trans hx104_1
                            replace hx104_2 := (HB.out.cell (World.block_lt_of_cell? w _ hx104_2)).trans hx104_2
                            replace hx104_3 := (HB.out.cell (World.block_lt_of_cell? w _ hx104_3)).trans hx104_3
                            have HR104_3 := Aside0.mk hi104_3
                            have HC104_3 := Aside0.mk hl104_3
                            clear hi104_3 hl104_3
                            replace p104 := eq_true p104
                            replace q104 := eq_true q104
                            go_wp2_with (first | ((with_reducible refine gate_dst (N := 8) rfl ?_); (try (refine gate_guard (by rfl) ?_; dsimp only)); refine box_event ?hg (N := 8) ?hd (cs := #[.int .i64 0, .int .i64 0, .string (⟨#[]⟩ : ByteArray), .slice none 0 0]) (t := 34) ?hr ?_; (case hd => rfl); (case hg => rfl); (case hr => first | (go_simp; done) | (go_simp; rfl)); intro gb105 hg w77 hbox hb; have n0_ := Aside0.mk (blk_below (g := gb101) (o := .cells #[.int .i64 a0_0, .int .i64 a0_1, .string a0_2, .slice (some ad104) l0_3.length c0_3] 34 (0, 0)) (by (with_reducible repeat (first | refine blk_drewN ?_ _ | refine blk_drew ?_ | refine blk_alloc ?_ _)); exact BK101.out) hb); have n1_ := Aside0.mk (below_step (by repeat (first | (with_reducible first | exact HB.out | apply below_alloc | apply pw_below_drewN | apply below_drew1 | refine below_set ?_ GE101.out) | exact HB.out)) hb); have n2_ := Aside0.mk (hbox); have n3_ := Aside0.mk ((by rw [hg]; exact (below_size (by repeat (first | (with_reducible first | exact HB.out | apply below_alloc | apply pw_below_drewN | apply below_drew1 | refine below_set ?_ GE101.out) | exact HB.out))) : w.heap.size ≤ gb105)); have n4_ := Aside0.mk ((by rw [hg]; exact (below_size (by repeat (first | (with_reducible first | exact HB.out | apply below_alloc | apply pw_below_drewN | apply below_drew1 | refine below_set ?_ GE101.out) | exact HB.out))) : w.heap.size ≤ gb105)); have n5_ := Aside0.mk ((by rw [hg]; exact Nat.ne_of_lt (blk_lt (g := gb101) (o := .cells #[.int .i64 a0_0, .int .i64 a0_1, .string a0_2, .slice (some ad104) l0_3.length c0_3] 34 (0, 0)) (by (with_reducible repeat (first | refine blk_drewN ?_ _ | refine blk_drew ?_ | refine blk_alloc ?_ _)); exact BK101.out)) : gb101 ≠ gb105)); have n6_ := Aside0.mk ((by rw [hg]; exact Nat.ne_of_gt (blk_lt (g := gb101) (o := .cells #[.int .i64 a0_0, .int .i64 a0_1, .string a0_2, .slice (some ad104) l0_3.length c0_3] 34 (0, 0)) (by (with_reducible repeat (first | refine blk_drewN ?_ _ | refine blk_drew ?_ | refine blk_alloc ?_ _)); exact BK101.out)) : gb105 ≠ gb101)); clear BK101; clear HB; have BK101 := n0_; have HB := n1_; have BK105 := n2_; have GW105 := n3_; have GE105 := n4_; have NB101_105 := n5_; have NB105_101 := n6_; clear n0_ n1_ n2_ n3_ n4_ n5_ n6_; clear hb hbox hg; have hnb78 := NB105_101.out; have hnc78 := NB101_105.out; have hcz79_0 : w77.cell? ⟨gb105, 0, none⟩ = some (.int .i64 0) := (blk_cell BK105.out 0).trans rfl; have hcz79_1 : w77.cell? ⟨gb105, 1, none⟩ = some (.int .i64 0) := (blk_cell BK105.out 1).trans rfl; have hcz79_2 : w77.cell? ⟨gb105, 2, none⟩ = some (.string (⟨#[]⟩ : ByteArray)) := (blk_cell BK105.out 2).trans rfl; have hcz79_3 : w77.cell? ⟨gb105, 3, none⟩ = some (.slice none 0 0) := (blk_cell BK105.out 3).trans rfl; have hfz79_0 := blk_frozen BK105.out 0; have hfz79_1 := blk_frozen BK105.out 1; have hfz79_2 := blk_frozen BK105.out 2; have hfz79_3 := blk_frozen BK105.out 3) | ((with_reducible refine gate_callee (f := 63) rfl ?_); refine goesL_ (some 94) rfl rfl Tryd.func63 (by kernel_rfl) rfl #[.agg #[.int .i64 ((rd_T34 l0_3 x85_3).f0), .int .i64 ((rd_T34 l0_3 x85_3).f1), .string ((rd_T34 l0_3 x85_3).f2), .slice A104_3 ((rd_T34 l0_3 x85_3).f3).length c104_3], .int .i64 (wrap64 (a1 - x6_3))] rfl (by (try simp only [List.map_toArray, List.map_cons, List.map_nil]); first | done | rfl | (simp only [List.length_drop, List.length_take]; rfl)) ?_; (with_reducible refine (ih k3 (by have := HJ2.out; have := HJ37.out; have := HK3.out; omega) ((rd_T34 l0_3 x85_3).f0) ((rd_T34 l0_3 x85_3).f1) ((rd_T34 l0_3 x85_3).f2) _ _ ((rd_T34 l0_3 x85_3).f3) (wrap64 (a1 - x6_3)) t106 _ ?side1 ?side2 A55.out (by first | exact HT0.out | exact UT.below HT0.out (by repeat (first | (with_reducible first | exact HB.out | apply below_alloc | apply pw_below_drewN | apply below_drew1 | refine below_set ?_ GE101.out | refine below_set ?_ GE105.out) | exact HB.out)))).mono ?_); (case side1 => exact Kd.C_below HR104_3.out (by repeat (first | (with_reducible first | exact HB.out | apply below_alloc | apply pw_below_drewN | apply below_drew1 | refine below_set ?_ GE101.out | refine below_set ?_ GE105.out) | exact HB.out))); (case side2 => exact HC104_3.out); rintro e w80 ⟨rfl, hb⟩; refine ⟨_, rfl, ?_⟩; have n0_ := Aside0.mk (blk_below (g := gb101) (o := .cells #[.int .i64 a0_0, .int .i64 a0_1, .string a0_2, .slice (some ad104) l0_3.length c0_3] 34 (0, 0)) (by (with_reducible repeat (first | refine blk_drewN ?_ _ | refine blk_drew ?_ | refine blk_alloc ?_ _)); refine blk_far ?_ NB101_105.out _; (with_reducible repeat (first | refine blk_drewN ?_ _ | refine blk_drew ?_ | refine blk_alloc ?_ _)); refine blk_far ?_ NB101_105.out _; (with_reducible repeat (first | refine blk_drewN ?_ _ | refine blk_drew ?_ | refine blk_alloc ?_ _)); refine blk_far ?_ NB101_105.out _; (with_reducible repeat (first | refine blk_drewN ?_ _ | refine blk_drew ?_ | refine blk_alloc ?_ _)); refine blk_far ?_ NB101_105.out _; (with_reducible repeat (first | refine blk_drewN ?_ _ | refine blk_drew ?_ | refine blk_alloc ?_ _)); exact BK101.out) hb); have n1_ := Aside0.mk (blk_below (g := gb105) (o := .cells #[.int .i64 ((rd_T34 l0_3 x85_3).f0), .int .i64 ((rd_T34 l0_3 x85_3).f1), .string ((rd_T34 l0_3 x85_3).f2), .slice A104_3 ((rd_T34 l0_3 x85_3).f3).length c104_3] 34 (0, 0)) (by (with_reducible repeat (first | refine blk_drewN ?_ _ | refine blk_drew ?_ | refine blk_alloc ?_ _)); refine blk_put (cs := #[.int .i64 ((rd_T34 l0_3 x85_3).f0), .int .i64 ((rd_T34 l0_3 x85_3).f1), .string ((rd_T34 l0_3 x85_3).f2), .slice none 0 0]) ?_ 3 _ rfl; (with_reducible repeat (first | refine blk_drewN ?_ _ | refine blk_drew ?_ | refine blk_alloc ?_ _)); refine blk_put (cs := #[.int .i64 ((rd_T34 l0_3 x85_3).f0), .int .i64 ((rd_T34 l0_3 x85_3).f1), .string (⟨#[]⟩ : ByteArray), .slice none 0 0]) ?_ 2 _ rfl; (with_reducible repeat (first | refine blk_drewN ?_ _ | refine blk_drew ?_ | refine blk_alloc ?_ _)); refine blk_put (cs := #[.int .i64 ((rd_T34 l0_3 x85_3).f0), .int .i64 0, .string (⟨#[]⟩ : ByteArray), .slice none 0 0]) ?_ 1 _ rfl; (with_reducible repeat (first | refine blk_drewN ?_ _ | refine blk_drew ?_ | refine blk_alloc ?_ _)); refine blk_put (cs := #[.int .i64 0, .int .i64 0, .string (⟨#[]⟩ : ByteArray), .slice none 0 0]) ?_ 0 _ rfl; (with_reducible repeat (first | refine blk_drewN ?_ _ | refine blk_drew ?_ | refine blk_alloc ?_ _)); exact BK105.out) hb); have n2_ := Aside0.mk (below_step (by repeat (first | (with_reducible first | exact HB.out | apply below_alloc | apply pw_below_drewN | apply below_drew1 | refine below_set ?_ GE101.out | refine below_set ?_ GE105.out) | exact HB.out)) hb); clear BK101; clear BK105; clear HB; have BK101 := n0_; have BK105 := n1_; have HB := n2_; clear n0_ n1_ n2_; (try clear hb); (try clear hb2); (try clear hk); (try clear hi); have hcz81_0 : w80.cell? ⟨gb101, 0, none⟩ = some (.int .i64 a0_0) := (blk_cell BK101.out 0).trans rfl; have hcz81_1 : w80.cell? ⟨gb101, 1, none⟩ = some (.int .i64 a0_1) := (blk_cell BK101.out 1).trans rfl; have hcz81_2 : w80.cell? ⟨gb101, 2, none⟩ = some (.string a0_2) := (blk_cell BK101.out 2).trans rfl; have hcz81_3 : w80.cell? ⟨gb101, 3, none⟩ = some (.slice (some ad104) l0_3.length c0_3) := (blk_cell BK101.out 3).trans rfl; have hfz81_0 := blk_frozen BK101.out 0; have hfz81_1 := blk_frozen BK101.out 1; have hfz81_2 := blk_frozen BK101.out 2; have hfz81_3 := blk_frozen BK101.out 3) | ((with_reducible refine gate_callee (f := 96) rfl ?_); refine goesL_ (some 102) rfl rfl Tryd.func96 (by kernel_rfl) rfl #[.agg #[.int .i64 a0_0, .int .i64 a0_1, .string a0_2, .slice (some ad104) l0_3.length c0_3], .int .i64 x85_3] rfl (by (try simp only [List.map_toArray, List.map_cons, List.map_nil]); first | done | rfl | (simp only [List.length_drop, List.length_take]; rfl)) ?_; (with_reducible refine (expr_wrapped.calls k3 a0_0 a0_1 a0_2 _ _ l0_3 x85_3 false _ ?side1 ?side2 A61.out).mono ?_); (case side1 => repeat (first | exact (Kd.C_below HR0_3.out HB.out) | (with_reducible refine Kd.C_alloc ?_ _) | (with_reducible refine Kd.C_drewN ?_ _) | (with_reducible refine Kd.C_drew ?_))); (case side2 => exact HC0_3.out); rintro e w82 ⟨rfl, hb⟩; refine ⟨_, rfl, ?_⟩; have n0_ := Aside0.mk (blk_below (g := gb101) (o := .cells #[.int .i64 a0_0, .int .i64 a0_1, .string a0_2, .slice (some ad104) l0_3.length c0_3] 34 (0, 0)) (by (with_reducible repeat (first | refine blk_drewN ?_ _ | refine blk_drew ?_ | refine blk_alloc ?_ _)); exact BK101.out) hb); have n1_ := Aside0.mk (blk_below (g := gb105) (o := .cells #[.int .i64 ((rd_T34 l0_3 x85_3).f0), .int .i64 ((rd_T34 l0_3 x85_3).f1), .string ((rd_T34 l0_3 x85_3).f2), .slice A104_3 ((rd_T34 l0_3 x85_3).f3).length c104_3] 34 (0, 0)) (by (with_reducible repeat (first | refine blk_drewN ?_ _ | refine blk_drew ?_ | refine blk_alloc ?_ _)); exact BK105.out) hb); have n2_ := Aside0.mk (below_step (by repeat (first | (with_reducible first | exact HB.out | apply below_alloc | apply pw_below_drewN | apply below_drew1 | refine below_set ?_ GE101.out | refine below_set ?_ GE105.out) | exact HB.out)) hb); clear BK101; clear BK105; clear HB; have BK101 := n0_; have BK105 := n1_; have HB := n2_; clear n0_ n1_ n2_; (try clear hb); (try clear hb2); (try clear hk); (try clear hi)))
                            go_ret
                            exact ⟨by first | rfl | (simp [errW_none, errW_some] <;> rfl) | (simp [*, errW_none, errW_some] <;> rfl), by repeat (first | (with_reducible first | exact HB.out | apply below_alloc | apply pw_below_drewN | apply below_drew1 | refine below_set ?_ GE101.out | refine below_set ?_ GE105.out) | exact HB.out)⟩
                          · rw [if_neg c76] at H
                            have c76b0 : decide (a1 < (wrap64 (x6_3 + t106))) = false := decide_eq_false c76
                            clear c76
                            have H' := Aside0.mk H
                            clear H
                            have p104 : 0 ≤ (x85_3 : Int) := of_decide_eq_true (by first | (with_reducible assumption) | assumption)
                            have q104 : x85_3 < (l0_3.length : Int) := of_decide_eq_true (by first | (with_reducible assumption) | assumption)
                            obtain ⟨ad104, A104_3, c104_3, e104, hx104_0, hx104_1, hx104_2, hx104_3, hl104_3, hi104_3⟩ := at_T34 HR0_3.out x85_3 p104 q104
                            cases e104
                            replace hx104_0 := (HB.out.cell (World.block_lt_of_cell? w _ hx104_0)).trans hx104_0
                            replace hx104_1 := (HB.out.cell (World.block_lt_of_cell? w _ hx104_1)).trans hx104_1
                            replace hx104_2 := (HB.out.cell (World.block_lt_of_cell? w _ hx104_2)).trans hx104_2
                            replace hx104_3 := (HB.out.cell (World.block_lt_of_cell? w _ hx104_3)).trans hx104_3
                            have HR104_3 := Aside0.mk hi104_3
                            have HC104_3 := Aside0.mk hl104_3
                            clear hi104_3 hl104_3
                            replace p104 := eq_true p104
                            replace q104 := eq_true q104
                            go_wp2_with (first | ((with_reducible refine gate_dst (N := 8) rfl ?_); (try (refine gate_guard (by rfl) ?_; dsimp only)); refine box_event ?hg (N := 8) ?hd (cs := #[.int .i64 0, .int .i64 0, .string (⟨#[]⟩ : ByteArray), .slice none 0 0]) (t := 34) ?hr ?_; (case hd => rfl); (case hg => rfl); (case hr => first | (go_simp; done) | (go_simp; rfl)); intro gb105 hg w83 hbox hb; have n0_ := Aside0.mk (blk_below (g := gb101) (o := .cells #[.int .i64 a0_0, .int .i64 a0_1, .string a0_2, .slice (some ad104) l0_3.length c0_3] 34 (0, 0)) (by (with_reducible repeat (first | refine blk_drewN ?_ _ | refine blk_drew ?_ | refine blk_alloc ?_ _)); exact BK101.out) hb); have n1_ := Aside0.mk (below_step (by repeat (first | (with_reducible first | exact HB.out | apply below_alloc | apply pw_below_drewN | apply below_drew1 | refine below_set ?_ GE101.out) | exact HB.out)) hb); have n2_ := Aside0.mk (hbox); have n3_ := Aside0.mk ((by rw [hg]; exact (below_size (by repeat (first | (with_reducible first | exact HB.out | apply below_alloc | apply pw_below_drewN | apply below_drew1 | refine below_set ?_ GE101.out) | exact HB.out))) : w.heap.size ≤ gb105)); have n4_ := Aside0.mk ((by rw [hg]; exact (below_size (by repeat (first | (with_reducible first | exact HB.out | apply below_alloc | apply pw_below_drewN | apply below_drew1 | refine below_set ?_ GE101.out) | exact HB.out))) : w.heap.size ≤ gb105)); have n5_ := Aside0.mk ((by rw [hg]; exact Nat.ne_of_lt (blk_lt (g := gb101) (o := .cells #[.int .i64 a0_0, .int .i64 a0_1, .string a0_2, .slice (some ad104) l0_3.length c0_3] 34 (0, 0)) (by (with_reducible repeat (first | refine blk_drewN ?_ _ | refine blk_drew ?_ | refine blk_alloc ?_ _)); exact BK101.out)) : gb101 ≠ gb105)); have n6_ := Aside0.mk ((by rw [hg]; exact Nat.ne_of_gt (blk_lt (g := gb101) (o := .cells #[.int .i64 a0_0, .int .i64 a0_1, .string a0_2, .slice (some ad104) l0_3.length c0_3] 34 (0, 0)) (by (with_reducible repeat (first | refine blk_drewN ?_ _ | refine blk_drew ?_ | refine blk_alloc ?_ _)); exact BK101.out)) : gb105 ≠ gb101)); clear BK101; clear HB; have BK101 := n0_; have HB := n1_; have BK105 := n2_; have GW105 := n3_; have GE105 := n4_; have NB101_105 := n5_; have NB105_101 := n6_; clear n0_ n1_ n2_ n3_ n4_ n5_ n6_; clear hb hbox hg; have hnb84 := NB105_101.out; have hnc84 := NB101_105.out; have hcz85_0 : w83.cell? ⟨gb105, 0, none⟩ = some (.int .i64 0) := (blk_cell BK105.out 0).trans rfl; have hcz85_1 : w83.cell? ⟨gb105, 1, none⟩ = some (.int .i64 0) := (blk_cell BK105.out 1).trans rfl; have hcz85_2 : w83.cell? ⟨gb105, 2, none⟩ = some (.string (⟨#[]⟩ : ByteArray)) := (blk_cell BK105.out 2).trans rfl; have hcz85_3 : w83.cell? ⟨gb105, 3, none⟩ = some (.slice none 0 0) := (blk_cell BK105.out 3).trans rfl; have hfz85_0 := blk_frozen BK105.out 0; have hfz85_1 := blk_frozen BK105.out 1; have hfz85_2 := blk_frozen BK105.out 2; have hfz85_3 := blk_frozen BK105.out 3) | ((with_reducible refine gate_callee (f := 63) rfl ?_); refine goesL_ (some 94) rfl rfl Tryd.func63 (by kernel_rfl) rfl #[.agg #[.int .i64 ((rd_T34 l0_3 x85_3).f0), .int .i64 ((rd_T34 l0_3 x85_3).f1), .string ((rd_T34 l0_3 x85_3).f2), .slice A104_3 ((rd_T34 l0_3 x85_3).f3).length c104_3], .int .i64 (wrap64 (a1 - x6_3))] rfl (by (try simp only [List.map_toArray, List.map_cons, List.map_nil]); first | done | rfl | (simp only [List.length_drop, List.length_take]; rfl)) ?_; (with_reducible refine (ih k3 (by have := HJ2.out; have := HJ37.out; have := HK3.out; omega) ((rd_T34 l0_3 x85_3).f0) ((rd_T34 l0_3 x85_3).f1) ((rd_T34 l0_3 x85_3).f2) _ _ ((rd_T34 l0_3 x85_3).f3) (wrap64 (a1 - x6_3)) t106 _ ?side1 ?side2 A55.out (by first | exact HT0.out | exact UT.below HT0.out (by repeat (first | (with_reducible first | exact HB.out | apply below_alloc | apply pw_below_drewN | apply below_drew1 | refine below_set ?_ GE101.out | refine below_set ?_ GE105.out) | exact HB.out)))).mono ?_); (case side1 => exact Kd.C_below HR104_3.out (by repeat (first | (with_reducible first | exact HB.out | apply below_alloc | apply pw_below_drewN | apply below_drew1 | refine below_set ?_ GE101.out | refine below_set ?_ GE105.out) | exact HB.out))); (case side2 => exact HC104_3.out); rintro e w86 ⟨rfl, hb⟩; refine ⟨_, rfl, ?_⟩; have n0_ := Aside0.mk (blk_below (g := gb101) (o := .cells #[.int .i64 a0_0, .int .i64 a0_1, .string a0_2, .slice (some ad104) l0_3.length c0_3] 34 (0, 0)) (by (with_reducible repeat (first | refine blk_drewN ?_ _ | refine blk_drew ?_ | refine blk_alloc ?_ _)); refine blk_far ?_ NB101_105.out _; (with_reducible repeat (first | refine blk_drewN ?_ _ | refine blk_drew ?_ | refine blk_alloc ?_ _)); refine blk_far ?_ NB101_105.out _; (with_reducible repeat (first | refine blk_drewN ?_ _ | refine blk_drew ?_ | refine blk_alloc ?_ _)); refine blk_far ?_ NB101_105.out _; (with_reducible repeat (first | refine blk_drewN ?_ _ | refine blk_drew ?_ | refine blk_alloc ?_ _)); refine blk_far ?_ NB101_105.out _; (with_reducible repeat (first | refine blk_drewN ?_ _ | refine blk_drew ?_ | refine blk_alloc ?_ _)); exact BK101.out) hb); have n1_ := Aside0.mk (blk_below (g := gb105) (o := .cells #[.int .i64 ((rd_T34 l0_3 x85_3).f0), .int .i64 ((rd_T34 l0_3 x85_3).f1), .string ((rd_T34 l0_3 x85_3).f2), .slice A104_3 ((rd_T34 l0_3 x85_3).f3).length c104_3] 34 (0, 0)) (by (with_reducible repeat (first | refine blk_drewN ?_ _ | refine blk_drew ?_ | refine blk_alloc ?_ _)); refine blk_put (cs := #[.int .i64 ((rd_T34 l0_3 x85_3).f0), .int .i64 ((rd_T34 l0_3 x85_3).f1), .string ((rd_T34 l0_3 x85_3).f2), .slice none 0 0]) ?_ 3 _ rfl; (with_reducible repeat (first | refine blk_drewN ?_ _ | refine blk_drew ?_ | refine blk_alloc ?_ _)); refine blk_put (cs := #[.int .i64 ((rd_T34 l0_3 x85_3).f0), .int .i64 ((rd_T34 l0_3 x85_3).f1), .string (⟨#[]⟩ : ByteArray), .slice none 0 0]) ?_ 2 _ rfl; (with_reducible repeat (first | refine blk_drewN ?_ _ | refine blk_drew ?_ | refine blk_alloc ?_ _)); refine blk_put (cs := #[.int .i64 ((rd_T34 l0_3 x85_3).f0), .int .i64 0, .string (⟨#[]⟩ : ByteArray), .slice none 0 0]) ?_ 1 _ rfl; (with_reducible repeat (first | refine blk_drewN ?_ _ | refine blk_drew ?_ | refine blk_alloc ?_ _)); refine blk_put (cs := #[.int .i64 0, .int .i64 0, .string (⟨#[]⟩ : ByteArray), .slice none 0 0]) ?_ 0 _ rfl; (with_reducible repeat (first | refine blk_drewN ?_ _ | refine blk_drew ?_ | refine blk_alloc ?_ _)); exact BK105.out) hb); have n2_ := Aside0.mk (below_step (by repeat (first | (with_reducible first | exact HB.out | apply below_alloc | apply pw_below_drewN | apply below_drew1 | refine below_set ?_ GE101.out | refine below_set ?_ GE105.out) | exact HB.out)) hb); clear BK101; clear BK105; clear HB; have BK101 := n0_; have BK105 := n1_; have HB := n2_; clear n0_ n1_ n2_; (try clear hb); (try clear hb2); (try clear hk); (try clear hi); have hcz87_0 : w86.cell? ⟨gb101, 0, none⟩ = some (.int .i64 a0_0) := (blk_cell BK101.out 0).trans rfl; have hcz87_1 : w86.cell? ⟨gb101, 1, none⟩ = some (.int .i64 a0_1) := (blk_cell BK101.out 1).trans rfl; have hcz87_2 : w86.cell? ⟨gb101, 2, none⟩ = some (.string a0_2) := (blk_cell BK101.out 2).trans rfl; have hcz87_3 : w86.cell? ⟨gb101, 3, none⟩ = some (.slice (some ad104) l0_3.length c0_3) := (blk_cell BK101.out 3).trans rfl; have hfz87_0 := blk_frozen BK101.out 0; have hfz87_1 := blk_frozen BK101.out 1; have hfz87_2 := blk_frozen BK101.out 2; have hfz87_3 := blk_frozen BK101.out 3) | ((with_reducible refine gate_callee (f := 96) rfl ?_); refine goesL_ (some 102) rfl rfl Tryd.func96 (by kernel_rfl) rfl #[.agg #[.int .i64 a0_0, .int .i64 a0_1, .string a0_2, .slice (some ad104) l0_3.length c0_3], .int .i64 x85_3] rfl (by (try simp only [List.map_toArray, List.map_cons, List.map_nil]); first | done | rfl | (simp only [List.length_drop, List.length_take]; rfl)) ?_; (with_reducible refine (expr_wrapped.calls k3 a0_0 a0_1 a0_2 _ _ l0_3 x85_3 false _ ?side1 ?side2 A61.out).mono ?_); (case side1 => repeat (first | exact (Kd.C_below HR0_3.out HB.out) | (with_reducible refine Kd.C_alloc ?_ _) | (with_reducible refine Kd.C_drewN ?_ _) | (with_reducible refine Kd.C_drew ?_))); (case side2 => exact HC0_3.out); rintro e w88 ⟨rfl, hb⟩; refine ⟨_, rfl, ?_⟩; have n0_ := Aside0.mk (blk_below (g := gb101) (o := .cells #[.int .i64 a0_0, .int .i64 a0_1, .string a0_2, .slice (some ad104) l0_3.length c0_3] 34 (0, 0)) (by (with_reducible repeat (first | refine blk_drewN ?_ _ | refine blk_drew ?_ | refine blk_alloc ?_ _)); exact BK101.out) hb); have n1_ := Aside0.mk (blk_below (g := gb105) (o := .cells #[.int .i64 ((rd_T34 l0_3 x85_3).f0), .int .i64 ((rd_T34 l0_3 x85_3).f1), .string ((rd_T34 l0_3 x85_3).f2), .slice A104_3 ((rd_T34 l0_3 x85_3).f3).length c104_3] 34 (0, 0)) (by (with_reducible repeat (first | refine blk_drewN ?_ _ | refine blk_drew ?_ | refine blk_alloc ?_ _)); exact BK105.out) hb); have n2_ := Aside0.mk (below_step (by repeat (first | (with_reducible first | exact HB.out | apply below_alloc | apply pw_below_drewN | apply below_drew1 | refine below_set ?_ GE101.out | refine below_set ?_ GE105.out) | exact HB.out)) hb); clear BK101; clear BK105; clear HB; have BK101 := n0_; have BK105 := n1_; have HB := n2_; clear n0_ n1_ n2_; (try clear hb); (try clear hb2); (try clear hk); (try clear hi)))
                            go_roundg k3
                            case measure => have := HJ2.out; have := HJ37.out; have := HK3.out; omega
                            case rel => exact ⟨(wrap64 (x6_3 + t106)), (wrap64 (x85_3 + 1)), (by first | rfl | (simp; done) | (simp [*]; done)), (by first | rfl | (simp; done) | (simp [*]; done)), H', ⟨by have := HJ2.out; have := HJ37.out; have := HK3.out; omega⟩, ⟨by (with_reducible repeat (first | refine blk_drewN ?_ _ | refine blk_drew ?_ | refine blk_alloc ?_ _)); exact BK101.out⟩, ⟨by repeat (first | (with_reducible first | exact HB.out | apply below_alloc | apply pw_below_drewN | apply below_drew1 | refine below_set ?_ GE101.out | refine below_set ?_ GE105.out) | exact HB.out)⟩⟩
                    · rw [if_neg c54] at H
                      exact absurd H (by simp)
                  · rw [if_neg c53] at H
                    exact absurd H (by simp)
                · rw [if_neg c52] at H
                  have c52b0 : decide (x85_3 < (l0_3.length : Int)) = false := decide_eq_false c52
                  clear c52
                  obtain rfl := Option.some.inj H
                  go_wp2
                  go_ret
                  exact ⟨by first | rfl | (simp [errW_none, errW_some] <;> rfl) | (simp [*, errW_none, errW_some] <;> rfl), by repeat (first | (with_reducible first | exact HB.out | apply below_alloc | apply pw_below_drewN | apply below_drew1 | refine below_set ?_ GE101.out) | exact HB.out)⟩
end Go.Proofs.YtiaccdaeomaogaaDoor.F
namespace Go.Proofs.YtiaccdaeomaogaaDoor.F
open Go.RowKit Go.Proofs.YtiaccdaeomaogaaDoorW.PrintWords Go.Proofs.YtiaccdaeomaogaaDoorW.PrintLast Go.Proofs.YtiaccdaeomaogaaDoorW.PrintMore
attribute [local go_sem] max2_int min2_int max_two min_two max_three min_three max_four min_four   -- for this text's walks alone
set_option linter.unusedVariables false
set_option linter.unusedSimpArgs false
def expr_May.f (k : Nat) (a0_0 : Int) (a0_1 : Int) (a0_2 : ByteArray) (l0_3 : List (S34)) : Option (Bool) := (expr_tokens.f k a0_0 a0_1 a0_2 l0_3 64).bind fun t102 => (if t102 > 0 then (some (decide (t102 ≤ 64))) else (some false))
theorem expr_May.mono : ∀ a0 a1 a2 a3 k, LeO (expr_May.f k a0 a1 a2 a3) (expr_May.f (k + 1) a0 a1 a2 a3) := by
  intro a0 a1 a2 a3 k
  unfold expr_May.f
  repeat' first
      | (with_reducible exact expr_tokens.mono _ _ _ _ _ _)
      | (with_reducible exact LeO.refl _)
      | (with_reducible exact LeO.none _)
      | (with_reducible refine LeO.ite ?_ ?_)
      | (with_reducible refine LeO.bind ?_ (fun _ => ?_))
      | exact expr_tokens.mono _ _ _ _ _ _
      | exact LeO.none _
      | refine LeO.ite ?_ ?_
      | refine LeO.bind ?_ (fun _ => ?_)
set_option maxHeartbeats 8000000 in
set_option maxRecDepth 100000 in
theorem expr_May.calls (k : Nat) (a0_0 : Int) (a0_1 : Int) (a0_2 : ByteArray) (A0_3 : Option Addr) (c0_3 : Nat) (l0_3 : List (S34)) (r : Bool) (w : World) (hr0_3 : Kd.C k34 w A0_3 l0_3.length l0_3) (hc0_3 : l0_3.length ≤ c0_3) (h : expr_May.f k a0_0 a0_1 a0_2 l0_3 = some r) (hT : UT w) :
  Calls Tryd.prog 29 #[.agg #[.int .i64 a0_0, .int .i64 a0_1, .string a0_2, .slice A0_3 l0_3.length c0_3]] w fun e w' => e = .returned (.bool r) ∧ Below w.heap.size w w' := by
 have HT0 := Aside0.mk hT
 clear hT
 have hu34 := Tryd.underlying34
 have HR0_3 := Aside0.mk hr0_3
 have HC0_3 := Aside0.mk hc0_3
 clear hr0_3 hc0_3
 have HB := Aside0.mk (Below.refl w.heap.size w)
 have H : ((expr_tokens.f k a0_0 a0_1 a0_2 l0_3 64).bind fun t102 => (if t102 > 0 then (some (decide (t102 ≤ 64))) else (some false))) = some r := h
 clear h
 replace H := Option.bind_eq_some_iff.mp H
 obtain ⟨t102, A20, H⟩ := H
 replace H : (if t102 > 0 then (some (decide (t102 ≤ 64))) else (some false)) = some r := H
 have A2 := Aside0.mk A20
 clear A20
 by_cases c3 : t102 > 0
 ·rw [if_pos c3] at H
  have c3b0 : decide (0 < t102) = true := decide_eq_true c3
  clear c3
  obtain rfl := Option.some.inj H
  go_enter Tryd.func29, Tryd.ntmps29
  go_wp2_with (first | ((with_reducible refine gate_dst (N := 1) rfl ?_); refine box_event ?hg (N := 1) ?hd (cs := #[.int .i64 a0_0, .int .i64 a0_1, .string a0_2, .slice A0_3 l0_3.length c0_3]) (t := 34) ?hr ?_; (case hd => rfl); (case hg => rfl); (case hr => first | (go_simp; done) | (go_simp; rfl)); intro gb101 hg w4 hbox hb; have n0_ := Aside0.mk (below_step (by repeat (first | (with_reducible first | exact HB.out | apply below_alloc | apply pw_below_drewN | apply below_drew1) | exact HB.out)) hb); have n1_ := Aside0.mk (hbox); have n2_ := Aside0.mk ((by rw [hg]; exact (below_size (by repeat (first | (with_reducible first | exact HB.out | apply below_alloc | apply pw_below_drewN | apply below_drew1) | exact HB.out))) : w.heap.size ≤ gb101)); have n3_ := Aside0.mk ((by rw [hg]; exact (below_size (by repeat (first | (with_reducible first | exact HB.out | apply below_alloc | apply pw_below_drewN | apply below_drew1) | exact HB.out))) : w.heap.size ≤ gb101)); clear HB; have HB := n0_; have BK101 := n1_; have GW101 := n2_; have GE101 := n3_; clear n0_ n1_ n2_ n3_; clear hb hbox hg; have hcz5_0 : w4.cell? ⟨gb101, 0, none⟩ = some (.int .i64 a0_0) := (blk_cell BK101.out 0).trans rfl; have hcz5_1 : w4.cell? ⟨gb101, 1, none⟩ = some (.int .i64 a0_1) := (blk_cell BK101.out 1).trans rfl; have hcz5_2 : w4.cell? ⟨gb101, 2, none⟩ = some (.string a0_2) := (blk_cell BK101.out 2).trans rfl; have hcz5_3 : w4.cell? ⟨gb101, 3, none⟩ = some (.slice A0_3 l0_3.length c0_3) := (blk_cell BK101.out 3).trans rfl; have hfz5_0 := blk_frozen BK101.out 0; have hfz5_1 := blk_frozen BK101.out 1; have hfz5_2 := blk_frozen BK101.out 2; have hfz5_3 := blk_frozen BK101.out 3) | ((with_reducible refine gate_callee (f := 63) rfl ?_); refine goesL_ (some 5) rfl rfl Tryd.func63 (by kernel_rfl) rfl #[.agg #[.int .i64 a0_0, .int .i64 a0_1, .string a0_2, .slice A0_3 l0_3.length c0_3], .int .i64 64] rfl (by (try simp only [List.map_toArray, List.map_cons, List.map_nil]); first | done | rfl | (simp only [List.length_drop, List.length_take]; rfl)) ?_; (with_reducible refine (expr_tokens.calls k a0_0 a0_1 a0_2 _ _ l0_3 64 t102 _ ?side1 ?side2 A2.out (by first | exact HT0.out | exact UT.below HT0.out (by repeat (first | (with_reducible first | exact HB.out | apply below_alloc | apply pw_below_drewN | apply below_drew1 | refine below_set ?_ GE101.out) | exact HB.out)))).mono ?_); (case side1 => repeat (first | exact (Kd.C_below HR0_3.out HB.out) | (with_reducible refine Kd.C_alloc ?_ _) | (with_reducible refine Kd.C_drewN ?_ _) | (with_reducible refine Kd.C_drew ?_))); (case side2 => exact HC0_3.out); rintro e w6 ⟨rfl, hb⟩; refine ⟨_, rfl, ?_⟩; have n0_ := Aside0.mk (blk_below (g := gb101) (o := .cells #[.int .i64 a0_0, .int .i64 a0_1, .string a0_2, .slice A0_3 l0_3.length c0_3] 34 (0, 0)) (by (with_reducible repeat (first | refine blk_drewN ?_ _ | refine blk_drew ?_ | refine blk_alloc ?_ _)); exact BK101.out) hb); have n1_ := Aside0.mk (below_step (by repeat (first | (with_reducible first | exact HB.out | apply below_alloc | apply pw_below_drewN | apply below_drew1 | refine below_set ?_ GE101.out) | exact HB.out)) hb); clear BK101; clear HB; have BK101 := n0_; have HB := n1_; clear n0_ n1_; (try clear hb); (try clear hb2); (try clear hk); (try clear hi)))
  go_ret
  exact ⟨by first | rfl | (simp [errW_none, errW_some] <;> rfl) | (simp [*, errW_none, errW_some] <;> rfl), by repeat (first | (with_reducible first | exact HB.out | apply below_alloc | apply pw_below_drewN | apply below_drew1 | refine below_set ?_ GE101.out) | exact HB.out)⟩
 ·rw [if_neg c3] at H
  have c3b0 : decide (0 < t102) = false := decide_eq_false c3
  clear c3
  obtain rfl := Option.some.inj H
  go_enter Tryd.func29, Tryd.ntmps29
  go_wp2_with (first | ((with_reducible refine gate_dst (N := 1) rfl ?_); refine box_event ?hg (N := 1) ?hd (cs := #[.int .i64 a0_0, .int .i64 a0_1, .string a0_2, .slice A0_3 l0_3.length c0_3]) (t := 34) ?hr ?_; (case hd => rfl); (case hg => rfl); (case hr => first | (go_simp; done) | (go_simp; rfl)); intro gb101 hg w7 hbox hb; have n0_ := Aside0.mk (below_step (by repeat (first | (with_reducible first | exact HB.out | apply below_alloc | apply pw_below_drewN | apply below_drew1) | exact HB.out)) hb); have n1_ := Aside0.mk (hbox); have n2_ := Aside0.mk ((by rw [hg]; exact (below_size (by repeat (first | (with_reducible first | exact HB.out | apply below_alloc | apply pw_below_drewN | apply below_drew1) | exact HB.out))) : w.heap.size ≤ gb101)); have n3_ := Aside0.mk ((by rw [hg]; exact (below_size (by repeat (first | (with_reducible first | exact HB.out | apply below_alloc | apply pw_below_drewN | apply below_drew1) | exact HB.out))) : w.heap.size ≤ gb101)); clear HB; have HB := n0_; have BK101 := n1_; have GW101 := n2_; have GE101 := n3_; clear n0_ n1_ n2_ n3_; clear hb hbox hg; have hcz8_0 : w7.cell? ⟨gb101, 0, none⟩ = some (.int .i64 a0_0) := (blk_cell BK101.out 0).trans rfl; have hcz8_1 : w7.cell? ⟨gb101, 1, none⟩ = some (.int .i64 a0_1) := (blk_cell BK101.out 1).trans rfl; have hcz8_2 : w7.cell? ⟨gb101, 2, none⟩ = some (.string a0_2) := (blk_cell BK101.out 2).trans rfl; have hcz8_3 : w7.cell? ⟨gb101, 3, none⟩ = some (.slice A0_3 l0_3.length c0_3) := (blk_cell BK101.out 3).trans rfl; have hfz8_0 := blk_frozen BK101.out 0; have hfz8_1 := blk_frozen BK101.out 1; have hfz8_2 := blk_frozen BK101.out 2; have hfz8_3 := blk_frozen BK101.out 3) | ((with_reducible refine gate_callee (f := 63) rfl ?_); refine goesL_ (some 5) rfl rfl Tryd.func63 (by kernel_rfl) rfl #[.agg #[.int .i64 a0_0, .int .i64 a0_1, .string a0_2, .slice A0_3 l0_3.length c0_3], .int .i64 64] rfl (by (try simp only [List.map_toArray, List.map_cons, List.map_nil]); first | done | rfl | (simp only [List.length_drop, List.length_take]; rfl)) ?_; (with_reducible refine (expr_tokens.calls k a0_0 a0_1 a0_2 _ _ l0_3 64 t102 _ ?side1 ?side2 A2.out (by first | exact HT0.out | exact UT.below HT0.out (by repeat (first | (with_reducible first | exact HB.out | apply below_alloc | apply pw_below_drewN | apply below_drew1 | refine below_set ?_ GE101.out) | exact HB.out)))).mono ?_); (case side1 => repeat (first | exact (Kd.C_below HR0_3.out HB.out) | (with_reducible refine Kd.C_alloc ?_ _) | (with_reducible refine Kd.C_drewN ?_ _) | (with_reducible refine Kd.C_drew ?_))); (case side2 => exact HC0_3.out); rintro e w9 ⟨rfl, hb⟩; refine ⟨_, rfl, ?_⟩; have n0_ := Aside0.mk (blk_below (g := gb101) (o := .cells #[.int .i64 a0_0, .int .i64 a0_1, .string a0_2, .slice A0_3 l0_3.length c0_3] 34 (0, 0)) (by (with_reducible repeat (first | refine blk_drewN ?_ _ | refine blk_drew ?_ | refine blk_alloc ?_ _)); exact BK101.out) hb); have n1_ := Aside0.mk (below_step (by repeat (first | (with_reducible first | exact HB.out | apply below_alloc | apply pw_below_drewN | apply below_drew1 | refine below_set ?_ GE101.out) | exact HB.out)) hb); clear BK101; clear HB; have BK101 := n0_; have HB := n1_; clear n0_ n1_; (try clear hb); (try clear hb2); (try clear hk); (try clear hi)))
  go_ret
  exact ⟨by first | rfl | (simp [errW_none, errW_some] <;> rfl) | (simp [*, errW_none, errW_some] <;> rfl), by repeat (first | (with_reducible first | exact HB.out | apply below_alloc | apply pw_below_drewN | apply below_drew1 | refine below_set ?_ GE101.out) | exact HB.out)⟩
end Go.Proofs.YtiaccdaeomaogaaDoor.F
namespace Go.Proofs.YtiaccdaeomaogaaDoor.F
open Go.RowKit Go.Proofs.YtiaccdaeomaogaaDoorW.PrintWords Go.Proofs.YtiaccdaeomaogaaDoorW.PrintLast Go.Proofs.YtiaccdaeomaogaaDoorW.PrintMore
attribute [local go_sem] max2_int min2_int max_two min_two max_three min_three max_four min_four   -- for this text's walks alone
set_option linter.unusedVariables false
set_option linter.unusedSimpArgs false
def rung_blank.f (a0_0 : Int) (a0_1 : Int) (a0_2 : ByteArray) (l0_3 : List (S34)) : Option (Bool) := if a0_0 = 0 then (if a0_1 = 0 then (if a0_2.toList = ([] : List UInt8) then (some ((l0_3.length : Int) == 0)) else (some false)) else (some false)) else (some false)
set_option maxHeartbeats 8000000 in
set_option maxRecDepth 100000 in
theorem rung_blank.calls (a0_0 : Int) (a0_1 : Int) (a0_2 : ByteArray) (A0_3 : Option Addr) (c0_3 : Nat) (l0_3 : List (S34)) (r : Bool) (w : World) (hr0_3 : Kd.C k34 w A0_3 l0_3.length l0_3) (hc0_3 : l0_3.length ≤ c0_3) (h : rung_blank.f a0_0 a0_1 a0_2 l0_3 = some r) :
  Calls Tryd.prog 122 #[.agg #[.int .i64 a0_0, .int .i64 a0_1, .string a0_2, .slice A0_3 l0_3.length c0_3]] w fun e w' => e = .returned (.bool r) ∧ Below w.heap.size w w' := by
 have hu34 := Tryd.underlying34
 have HR0_3 := Aside0.mk hr0_3
 have HC0_3 := Aside0.mk hc0_3
 clear hr0_3 hc0_3
 have HB := Aside0.mk (Below.refl w.heap.size w)
 have H : (if a0_0 = 0 then (if a0_1 = 0 then (if a0_2.toList = ([] : List UInt8) then (some ((l0_3.length : Int) == 0)) else (some false)) else (some false)) else (some false)) = some r := h
 clear h
 by_cases c2 : a0_0 = 0
 ·rw [if_pos c2] at H
  have c2b0 : (a0_0 == 0) = true := beq_iff_eq.mpr c2
  have c2b1 : (a0_0 != 0) = false := bne_eq_false_iff_eq.mpr c2
  clear c2
  by_cases c3 : a0_1 = 0
  ·rw [if_pos c3] at H
   have c3b0 : (a0_1 == 0) = true := beq_iff_eq.mpr c3
   have c3b1 : (a0_1 != 0) = false := bne_eq_false_iff_eq.mpr c3
   clear c3
   by_cases c4 : a0_2.toList = ([] : List UInt8)
   ·rw [if_pos c4] at H
    have c4b0 : (a0_2.toList == ([] : List UInt8)) = true := beq_iff_eq.mpr c4
    have c4b1 : (a0_2.toList != ([] : List UInt8)) = false := bne_eq_false_iff_eq.mpr c4
    clear c4
    obtain rfl := Option.some.inj H
    go_enter Tryd.func122, Tryd.ntmps122
    go_wp2_with (first | ((with_reducible refine gate_dst (N := 1) rfl ?_); (try (refine gate_guard (by rfl) ?_; dsimp only)); refine box_event ?hg (N := 1) ?hd (cs := #[.int .i64 a0_0, .int .i64 a0_1, .string a0_2, .slice A0_3 l0_3.length c0_3]) (t := 34) ?hr ?_; (case hd => rfl); (case hg => rfl); (case hr => first | (go_simp; done) | (go_simp; rfl)); intro gb101 hg w5 hbox hb; have n0_ := Aside0.mk (below_step (by repeat (first | (with_reducible first | exact HB.out | apply below_alloc | apply pw_below_drewN | apply below_drew1) | exact HB.out)) hb); have n1_ := Aside0.mk (hbox); have n2_ := Aside0.mk ((by rw [hg]; exact (below_size (by repeat (first | (with_reducible first | exact HB.out | apply below_alloc | apply pw_below_drewN | apply below_drew1) | exact HB.out))) : w.heap.size ≤ gb101)); have n3_ := Aside0.mk ((by rw [hg]; exact (below_size (by repeat (first | (with_reducible first | exact HB.out | apply below_alloc | apply pw_below_drewN | apply below_drew1) | exact HB.out))) : w.heap.size ≤ gb101)); clear HB; have HB := n0_; have BK101 := n1_; have GW101 := n2_; have GE101 := n3_; clear n0_ n1_ n2_ n3_; clear hb hbox hg; have hcz6_0 : w5.cell? ⟨gb101, 0, none⟩ = some (.int .i64 a0_0) := (blk_cell BK101.out 0).trans rfl; have hcz6_1 : w5.cell? ⟨gb101, 1, none⟩ = some (.int .i64 a0_1) := (blk_cell BK101.out 1).trans rfl; have hcz6_2 : w5.cell? ⟨gb101, 2, none⟩ = some (.string a0_2) := (blk_cell BK101.out 2).trans rfl; have hcz6_3 : w5.cell? ⟨gb101, 3, none⟩ = some (.slice A0_3 l0_3.length c0_3) := (blk_cell BK101.out 3).trans rfl; have hfz6_0 := blk_frozen BK101.out 0; have hfz6_1 := blk_frozen BK101.out 1; have hfz6_2 := blk_frozen BK101.out 2; have hfz6_3 := blk_frozen BK101.out 3))
    go_ret
    exact ⟨by first | rfl | (simp [errW_none, errW_some] <;> rfl) | (simp [*, errW_none, errW_some] <;> rfl), by repeat (first | (with_reducible first | exact HB.out | apply below_alloc | apply pw_below_drewN | apply below_drew1 | refine below_set ?_ GE101.out) | exact HB.out)⟩
   ·rw [if_neg c4] at H
    have c4b0 : (a0_2.toList == ([] : List UInt8)) = false := beq_eq_false_iff_ne.mpr c4
    have c4b1 : (a0_2.toList != ([] : List UInt8)) = true := bne_iff_ne.mpr c4
    obtain rfl := Option.some.inj H
    go_enter Tryd.func122, Tryd.ntmps122
    go_wp2_with (first | ((with_reducible refine gate_dst (N := 1) rfl ?_); (try (refine gate_guard (by rfl) ?_; dsimp only)); refine box_event ?hg (N := 1) ?hd (cs := #[.int .i64 a0_0, .int .i64 a0_1, .string a0_2, .slice A0_3 l0_3.length c0_3]) (t := 34) ?hr ?_; (case hd => rfl); (case hg => rfl); (case hr => first | (go_simp; done) | (go_simp; rfl)); intro gb101 hg w7 hbox hb; have n0_ := Aside0.mk (below_step (by repeat (first | (with_reducible first | exact HB.out | apply below_alloc | apply pw_below_drewN | apply below_drew1) | exact HB.out)) hb); have n1_ := Aside0.mk (hbox); have n2_ := Aside0.mk ((by rw [hg]; exact (below_size (by repeat (first | (with_reducible first | exact HB.out | apply below_alloc | apply pw_below_drewN | apply below_drew1) | exact HB.out))) : w.heap.size ≤ gb101)); have n3_ := Aside0.mk ((by rw [hg]; exact (below_size (by repeat (first | (with_reducible first | exact HB.out | apply below_alloc | apply pw_below_drewN | apply below_drew1) | exact HB.out))) : w.heap.size ≤ gb101)); clear HB; have HB := n0_; have BK101 := n1_; have GW101 := n2_; have GE101 := n3_; clear n0_ n1_ n2_ n3_; clear hb hbox hg; have hcz8_0 : w7.cell? ⟨gb101, 0, none⟩ = some (.int .i64 a0_0) := (blk_cell BK101.out 0).trans rfl; have hcz8_1 : w7.cell? ⟨gb101, 1, none⟩ = some (.int .i64 a0_1) := (blk_cell BK101.out 1).trans rfl; have hcz8_2 : w7.cell? ⟨gb101, 2, none⟩ = some (.string a0_2) := (blk_cell BK101.out 2).trans rfl; have hcz8_3 : w7.cell? ⟨gb101, 3, none⟩ = some (.slice A0_3 l0_3.length c0_3) := (blk_cell BK101.out 3).trans rfl; have hfz8_0 := blk_frozen BK101.out 0; have hfz8_1 := blk_frozen BK101.out 1; have hfz8_2 := blk_frozen BK101.out 2; have hfz8_3 := blk_frozen BK101.out 3))
    go_ret
    exact ⟨by first | rfl | (simp [errW_none, errW_some] <;> rfl) | (simp [*, errW_none, errW_some] <;> rfl), by repeat (first | (with_reducible first | exact HB.out | apply below_alloc | apply pw_below_drewN | apply below_drew1 | refine below_set ?_ GE101.out) | exact HB.out)⟩
  ·rw [if_neg c3] at H
   have c3b0 : (a0_1 == 0) = false := beq_eq_false_iff_ne.mpr c3
   have c3b1 : (a0_1 != 0) = true := bne_iff_ne.mpr c3
   obtain rfl := Option.some.inj H
   go_enter Tryd.func122, Tryd.ntmps122
   go_wp2_with (first | ((with_reducible refine gate_dst (N := 1) rfl ?_); (try (refine gate_guard (by rfl) ?_; dsimp only)); refine box_event ?hg (N := 1) ?hd (cs := #[.int .i64 a0_0, .int .i64 a0_1, .string a0_2, .slice A0_3 l0_3.length c0_3]) (t := 34) ?hr ?_; (case hd => rfl); (case hg => rfl); (case hr => first | (go_simp; done) | (go_simp; rfl)); intro gb101 hg w9 hbox hb; have n0_ := Aside0.mk (below_step (by repeat (first | (with_reducible first | exact HB.out | apply below_alloc | apply pw_below_drewN | apply below_drew1) | exact HB.out)) hb); have n1_ := Aside0.mk (hbox); have n2_ := Aside0.mk ((by rw [hg]; exact (below_size (by repeat (first | (with_reducible first | exact HB.out | apply below_alloc | apply pw_below_drewN | apply below_drew1) | exact HB.out))) : w.heap.size ≤ gb101)); have n3_ := Aside0.mk ((by rw [hg]; exact (below_size (by repeat (first | (with_reducible first | exact HB.out | apply below_alloc | apply pw_below_drewN | apply below_drew1) | exact HB.out))) : w.heap.size ≤ gb101)); clear HB; have HB := n0_; have BK101 := n1_; have GW101 := n2_; have GE101 := n3_; clear n0_ n1_ n2_ n3_; clear hb hbox hg; have hcz10_0 : w9.cell? ⟨gb101, 0, none⟩ = some (.int .i64 a0_0) := (blk_cell BK101.out 0).trans rfl; have hcz10_1 : w9.cell? ⟨gb101, 1, none⟩ = some (.int .i64 a0_1) := (blk_cell BK101.out 1).trans rfl; have hcz10_2 : w9.cell? ⟨gb101, 2, none⟩ = some (.string a0_2) := (blk_cell BK101.out 2).trans rfl; have hcz10_3 : w9.cell? ⟨gb101, 3, none⟩ = some (.slice A0_3 l0_3.length c0_3) := (blk_cell BK101.out 3).trans rfl; have hfz10_0 := blk_frozen BK101.out 0; have hfz10_1 := blk_frozen BK101.out 1; have hfz10_2 := blk_frozen BK101.out 2; have hfz10_3 := blk_frozen BK101.out 3))
   go_ret
   exact ⟨by first | rfl | (simp [errW_none, errW_some] <;> rfl) | (simp [*, errW_none, errW_some] <;> rfl), by repeat (first | (with_reducible first | exact HB.out | apply below_alloc | apply pw_below_drewN | apply below_drew1 | refine below_set ?_ GE101.out) | exact HB.out)⟩
 ·rw [if_neg c2] at H
  have c2b0 : (a0_0 == 0) = false := beq_eq_false_iff_ne.mpr c2
  have c2b1 : (a0_0 != 0) = true := bne_iff_ne.mpr c2
  obtain rfl := Option.some.inj H
  go_enter Tryd.func122, Tryd.ntmps122
  go_wp2_with (first | ((with_reducible refine gate_dst (N := 1) rfl ?_); (try (refine gate_guard (by rfl) ?_; dsimp only)); refine box_event ?hg (N := 1) ?hd (cs := #[.int .i64 a0_0, .int .i64 a0_1, .string a0_2, .slice A0_3 l0_3.length c0_3]) (t := 34) ?hr ?_; (case hd => rfl); (case hg => rfl); (case hr => first | (go_simp; done) | (go_simp; rfl)); intro gb101 hg w11 hbox hb; have n0_ := Aside0.mk (below_step (by repeat (first | (with_reducible first | exact HB.out | apply below_alloc | apply pw_below_drewN | apply below_drew1) | exact HB.out)) hb); have n1_ := Aside0.mk (hbox); have n2_ := Aside0.mk ((by rw [hg]; exact (below_size (by repeat (first | (with_reducible first | exact HB.out | apply below_alloc | apply pw_below_drewN | apply below_drew1) | exact HB.out))) : w.heap.size ≤ gb101)); have n3_ := Aside0.mk ((by rw [hg]; exact (below_size (by repeat (first | (with_reducible first | exact HB.out | apply below_alloc | apply pw_below_drewN | apply below_drew1) | exact HB.out))) : w.heap.size ≤ gb101)); clear HB; have HB := n0_; have BK101 := n1_; have GW101 := n2_; have GE101 := n3_; clear n0_ n1_ n2_ n3_; clear hb hbox hg; have hcz12_0 : w11.cell? ⟨gb101, 0, none⟩ = some (.int .i64 a0_0) := (blk_cell BK101.out 0).trans rfl; have hcz12_1 : w11.cell? ⟨gb101, 1, none⟩ = some (.int .i64 a0_1) := (blk_cell BK101.out 1).trans rfl; have hcz12_2 : w11.cell? ⟨gb101, 2, none⟩ = some (.string a0_2) := (blk_cell BK101.out 2).trans rfl; have hcz12_3 : w11.cell? ⟨gb101, 3, none⟩ = some (.slice A0_3 l0_3.length c0_3) := (blk_cell BK101.out 3).trans rfl; have hfz12_0 := blk_frozen BK101.out 0; have hfz12_1 := blk_frozen BK101.out 1; have hfz12_2 := blk_frozen BK101.out 2; have hfz12_3 := blk_frozen BK101.out 3))
  go_ret
  exact ⟨by first | rfl | (simp [errW_none, errW_some] <;> rfl) | (simp [*, errW_none, errW_some] <;> rfl), by repeat (first | (with_reducible first | exact HB.out | apply below_alloc | apply pw_below_drewN | apply below_drew1 | refine below_set ?_ GE101.out) | exact HB.out)⟩
end Go.Proofs.YtiaccdaeomaogaaDoor.F
namespace Go.Proofs.YtiaccdaeomaogaaDoor.F
open Go.RowKit Go.Proofs.YtiaccdaeomaogaaDoorW.PrintWords Go.Proofs.YtiaccdaeomaogaaDoorW.PrintLast Go.Proofs.YtiaccdaeomaogaaDoorW.PrintMore
attribute [local go_sem] max2_int min2_int max_two min_two max_three min_three max_four min_four   -- for this text's walks alone
set_option linter.unusedVariables false
set_option linter.unusedSimpArgs false
mutual
def rung_named.j0 : Nat → Int → Bool → Option (Bool × Int × Int × Bool)
  | 0, _, _ => none
  | k + 1, x6, x7 => if x7 = true then (some (true, 0, 1, true)) else (if x6 = 2 then (some (false, 0, 1, true)) else (if x6 = 3 then (rung_named.j1 k x6 (x6 == 3)) else (if x6 = 4 then (rung_named.j1 k x6 (x6 == 4)) else (if x6 = 5 then (rung_named.j1 k x6 (x6 == 5)) else (rung_named.j1 k x6 (x6 == 6))))))
def rung_named.j1 : Nat → Int → Bool → Option (Bool × Int × Int × Bool)
  | 0, _, _ => none
  | k + 1, x6, x12 => if x12 = true then (some (true, 1, 1, true)) else (if x6 = 7 then (rung_named.j2 k x6 (x6 == 7)) else (rung_named.j2 k x6 (x6 == 8)))
def rung_named.j2 : Nat → Int → Bool → Option (Bool × Int × Int × Bool)
  | 0, _, _ => none
  | k + 1, x6, x17 => if x17 = true then (some (false, 2, 1, true)) else (if x6 = 9 then (some (false, 1, 1, true)) else (some (false, 0, 0, false)))
end
def rung_named.f (k : Nat) (a0 : Int) : Option (Bool × Int × Int × Bool) := if a0 = 0 then (rung_named.j0 k a0 (a0 == 0)) else (rung_named.j0 k a0 (a0 == 1))
theorem rung_named.mono_l : ∀ k, (∀ y0 y1, LeO (rung_named.j0 k y0 y1) (rung_named.j0 (k + 1) y0 y1)) ∧ (∀ y0 y1, LeO (rung_named.j1 k y0 y1) (rung_named.j1 (k + 1) y0 y1)) ∧ (∀ y0 y1, LeO (rung_named.j2 k y0 y1) (rung_named.j2 (k + 1) y0 y1))
  | 0 => ⟨fun _ _ r h => by simp [rung_named.j0] at h, fun _ _ r h => by simp [rung_named.j1] at h, fun _ _ r h => by simp [rung_named.j2] at h⟩
  | k + 1 => by
    obtain ⟨ih0, ih1, ih2⟩ := rung_named.mono_l k
    refine ⟨?_, ?_, ?_⟩
    · intro y0 y1
      unfold rung_named.j0
      repeat' first
      | (with_reducible exact ih0 _ _)
      | (with_reducible exact ih1 _ _)
      | (with_reducible exact ih2 _ _)
      | (with_reducible exact LeO.refl _)
      | (with_reducible exact LeO.none _)
      | (with_reducible refine LeO.ite ?_ ?_)
      | (with_reducible refine LeO.bind ?_ (fun _ => ?_))
      | exact ih0 _ _
      | exact ih1 _ _
      | exact ih2 _ _
      | exact LeO.none _
      | refine LeO.ite ?_ ?_
      | refine LeO.bind ?_ (fun _ => ?_)
    · intro y0 y1
      unfold rung_named.j1
      repeat' first
      | (with_reducible exact ih0 _ _)
      | (with_reducible exact ih1 _ _)
      | (with_reducible exact ih2 _ _)
      | (with_reducible exact LeO.refl _)
      | (with_reducible exact LeO.none _)
      | (with_reducible refine LeO.ite ?_ ?_)
      | (with_reducible refine LeO.bind ?_ (fun _ => ?_))
      | exact ih0 _ _
      | exact ih1 _ _
      | exact ih2 _ _
      | exact LeO.none _
      | refine LeO.ite ?_ ?_
      | refine LeO.bind ?_ (fun _ => ?_)
    · intro y0 y1
      unfold rung_named.j2
      repeat' first
      | (with_reducible exact ih0 _ _)
      | (with_reducible exact ih1 _ _)
      | (with_reducible exact ih2 _ _)
      | (with_reducible exact LeO.refl _)
      | (with_reducible exact LeO.none _)
      | (with_reducible refine LeO.ite ?_ ?_)
      | (with_reducible refine LeO.bind ?_ (fun _ => ?_))
      | exact ih0 _ _
      | exact ih1 _ _
      | exact ih2 _ _
      | exact LeO.none _
      | refine LeO.ite ?_ ?_
      | refine LeO.bind ?_ (fun _ => ?_)
theorem rung_named.mono : ∀ a0 k, LeO (rung_named.f k a0) (rung_named.f (k + 1) a0) := by
  intro a0 k
  obtain ⟨ih0, ih1, ih2⟩ := rung_named.mono_l k
  unfold rung_named.f
  repeat' first
      | (with_reducible exact ih0 _ _)
      | (with_reducible exact ih1 _ _)
      | (with_reducible exact ih2 _ _)
      | (with_reducible exact LeO.refl _)
      | (with_reducible exact LeO.none _)
      | (with_reducible refine LeO.ite ?_ ?_)
      | (with_reducible refine LeO.bind ?_ (fun _ => ?_))
      | exact ih0 _ _
      | exact ih1 _ _
      | exact ih2 _ _
      | exact LeO.none _
      | refine LeO.ite ?_ ?_
      | refine LeO.bind ?_ (fun _ => ?_)
set_option maxHeartbeats 8000000 in
set_option maxRecDepth 100000 in
theorem rung_named.calls (k : Nat) (a0 : Int) (r1 : Bool) (r2 : Int) (r3 : Int) (r4 : Bool) (w : World) (h : rung_named.f k a0 = some (r1, r2, r3, r4)) :
    Calls Tryd.prog 121 #[.int .i64 a0] w fun e w' => e = .returned (.tuple #[.bool r1, .int .i64 r2, .int .i64 r3, .bool r4]) ∧ Drawn0 w w' := by
  have H : (if a0 = 0 then (rung_named.j0 k a0 (a0 == 0)) else (rung_named.j0 k a0 (a0 == 1))) = some (r1, r2, r3, r4) := h
  clear h
  have HC2 := Aside0.mk H
  clear H
  go_enter Tryd.func121, Tryd.ntmps121
  go_upto_if 7 with (fail)
  go_cut [7] (fun v7 wc => ∃ (kq : Nat) (x7_1 : Bool), v7 = .bool x7_1 ∧ Aside0 (rung_named.j0 kq a0 x7_1 = some (r1, r2, r3, r4)) ∧ Aside0 (kq ≤ k) ∧ Drawn0 w wc)
  case first =>
    have H := HC2.out
    clear HC2
    by_cases c3 : a0 = 0
    · rw [if_pos c3] at H
      have c3b0 : (a0 == 0) = true := beq_iff_eq.mpr c3
      have c3b1 : (a0 != 0) = false := bne_eq_false_iff_eq.mpr c3
      clear c3
      (first | rw [c3b0] | (simp only [i64_w, i32_w]; rw [c3b0]) | skip)
      have H' := Aside0.mk H
      clear H
      go_wp2
      go_meet
      case rel => exact ⟨_, ((a0 == 0)), (by first | rfl | (simp; done) | (simp [*]; done)), H', ⟨by first | omega | exact Nat.le_refl _⟩, by repeat (first | exact Drawn0.refl _ | apply Drawn0.step)⟩
    · rw [if_neg c3] at H
      have c3b0 : (a0 == 0) = false := beq_eq_false_iff_ne.mpr c3
      have c3b1 : (a0 != 0) = true := bne_iff_ne.mpr c3
      (first | rw [c3b0] | (simp only [i64_w, i32_w]; rw [c3b0]) | skip)
      have H' := Aside0.mk H
      clear H
      go_wp2
      go_meet
      case rel => exact ⟨_, ((a0 == 1)), (by first | rfl | (simp; done) | (simp [*]; done)), H', ⟨by first | omega | exact Nat.le_refl _⟩, by repeat (first | exact Drawn0.refl _ | apply Drawn0.step)⟩
  case rest =>
    clear HC2
    obtain ⟨kq, x7_1, rfl, HA, HJ1, ⟨mc1, rfl⟩⟩ := hcut
    cases kq with
    | zero => exact absurd HA.out (by simp [rung_named.j0])
    | succ kj1 =>
      have H := HA.out
      clear HA
      simp only [rung_named.j0] at H
      by_cases c4 : x7_1 = true
      · subst c4
        have H1 : (some (true, 0, 1, true)) = some (r1, r2, r3, r4) := by rw [if_pos rfl] at H; exact H
        clear H
        have H := H1
        clear H1
        simp only [Option.some.injEq, Prod.mk.injEq] at H
        obtain ⟨rfl, rfl, rfl, rfl⟩ := H
        go_wp2
        refine bodyPost_ret (results_list (rs := [.tmp 2, .tmp 3, .tmp 4, .tmp 5]) rfl (by simp) (.tmp (.tmp (.tmp (.tmp .nil))))) rfl ?_
        exact ⟨by first | rfl | (simp; done) | (simp [*]; done), by repeat (first | exact Drawn0.refl _ | apply Drawn0.step)⟩
      · replace c4 := Bool.eq_false_iff.mpr c4
        subst c4
        have H1 : (if a0 = 2 then (some (false, 0, 1, true)) else (if a0 = 3 then (rung_named.j1 kj1 a0 (a0 == 3)) else (if a0 = 4 then (rung_named.j1 kj1 a0 (a0 == 4)) else (if a0 = 5 then (rung_named.j1 kj1 a0 (a0 == 5)) else (rung_named.j1 kj1 a0 (a0 == 6)))))) = some (r1, r2, r3, r4) := by rw [if_neg (show ¬ (false = true) by decide)] at H; exact H
        clear H
        have H := H1
        clear H1
        by_cases c5 : a0 = 2
        · rw [if_pos c5] at H
          have c5b0 : (a0 == 2) = true := beq_iff_eq.mpr c5
          have c5b1 : (a0 != 2) = false := bne_eq_false_iff_eq.mpr c5
          clear c5
          simp only [Option.some.injEq, Prod.mk.injEq] at H
          obtain ⟨rfl, rfl, rfl, rfl⟩ := H
          go_wp2
          refine bodyPost_ret (results_list (rs := [.tmp 2, .tmp 3, .tmp 4, .tmp 5]) rfl (by simp) (.tmp (.tmp (.tmp (.tmp .nil))))) rfl ?_
          exact ⟨by first | rfl | (simp; done) | (simp [*]; done), by repeat (first | exact Drawn0.refl _ | apply Drawn0.step)⟩
        · rw [if_neg c5] at H
          have c5b0 : (a0 == 2) = false := beq_eq_false_iff_ne.mpr c5
          have c5b1 : (a0 != 2) = true := bne_iff_ne.mpr c5
          have HC6 := Aside0.mk H
          clear H
          go_upto_if 12 with (fail)
          go_cut [12] (fun v12 wc => ∃ (kq : Nat) (x12_5 : Bool), v12 = .bool x12_5 ∧ Aside0 (rung_named.j1 kq a0 x12_5 = some (r1, r2, r3, r4)) ∧ Aside0 (kq ≤ kj1) ∧ Drawn0 w wc)
          case first =>
            have H := HC6.out
            clear HC6
            by_cases c7 : a0 = 3
            · rw [if_pos c7] at H
              have c7b0 : (a0 == 3) = true := beq_iff_eq.mpr c7
              have c7b1 : (a0 != 3) = false := bne_eq_false_iff_eq.mpr c7
              clear c7
              (first | rw [c7b0] | (simp only [i64_w, i32_w]; rw [c7b0]) | skip)
              have H' := Aside0.mk H
              clear H
              go_wp2
              go_meet
              case rel => exact ⟨_, ((a0 == 3)), (by first | rfl | (simp; done) | (simp [*]; done)), H', ⟨by have := HJ1.out; first | omega | exact Nat.le_refl _⟩, by repeat (first | exact Drawn0.refl _ | apply Drawn0.step)⟩
            · rw [if_neg c7] at H
              have c7b0 : (a0 == 3) = false := beq_eq_false_iff_ne.mpr c7
              have c7b1 : (a0 != 3) = true := bne_iff_ne.mpr c7
              (first | rw [c7b0] | (simp only [i64_w, i32_w]; rw [c7b0]) | skip)
              by_cases c8 : a0 = 4
              · rw [if_pos c8] at H
                have c8b0 : (a0 == 4) = true := beq_iff_eq.mpr c8
                have c8b1 : (a0 != 4) = false := bne_eq_false_iff_eq.mpr c8
                clear c8
                have H' := Aside0.mk H
                clear H
                go_wp2
                go_meet
                case rel => exact ⟨_, ((a0 == 4)), (by first | rfl | (simp; done) | (simp [*]; done)), H', ⟨by have := HJ1.out; first | omega | exact Nat.le_refl _⟩, by repeat (first | exact Drawn0.refl _ | apply Drawn0.step)⟩
              · rw [if_neg c8] at H
                have c8b0 : (a0 == 4) = false := beq_eq_false_iff_ne.mpr c8
                have c8b1 : (a0 != 4) = true := bne_iff_ne.mpr c8
                by_cases c9 : a0 = 5
                · rw [if_pos c9] at H
                  have c9b0 : (a0 == 5) = true := beq_iff_eq.mpr c9
                  have c9b1 : (a0 != 5) = false := bne_eq_false_iff_eq.mpr c9
                  clear c9
                  have H' := Aside0.mk H
                  clear H
                  go_wp2
                  go_meet
                  case rel => exact ⟨_, ((a0 == 5)), (by first | rfl | (simp; done) | (simp [*]; done)), H', ⟨by have := HJ1.out; first | omega | exact Nat.le_refl _⟩, by repeat (first | exact Drawn0.refl _ | apply Drawn0.step)⟩
                · rw [if_neg c9] at H
                  have c9b0 : (a0 == 5) = false := beq_eq_false_iff_ne.mpr c9
                  have c9b1 : (a0 != 5) = true := bne_iff_ne.mpr c9
                  have H' := Aside0.mk H
                  clear H
                  go_wp2
                  go_meet
                  case rel => exact ⟨_, ((a0 == 6)), (by first | rfl | (simp; done) | (simp [*]; done)), H', ⟨by have := HJ1.out; first | omega | exact Nat.le_refl _⟩, by repeat (first | exact Drawn0.refl _ | apply Drawn0.step)⟩
          case rest =>
            clear HC6
            obtain ⟨kq, x12_5, rfl, HA, HJ5, ⟨mc5, rfl⟩⟩ := hcut
            cases kq with
            | zero => exact absurd HA.out (by simp [rung_named.j1])
            | succ kj5 =>
              have H := HA.out
              clear HA
              simp only [rung_named.j1] at H
              by_cases c10 : x12_5 = true
              · subst c10
                have H1 : (some (true, 1, 1, true)) = some (r1, r2, r3, r4) := by rw [if_pos rfl] at H; exact H
                clear H
                have H := H1
                clear H1
                simp only [Option.some.injEq, Prod.mk.injEq] at H
                obtain ⟨rfl, rfl, rfl, rfl⟩ := H
                go_wp2
                refine bodyPost_ret (results_list (rs := [.tmp 2, .tmp 3, .tmp 4, .tmp 5]) rfl (by simp) (.tmp (.tmp (.tmp (.tmp .nil))))) rfl ?_
                exact ⟨by first | rfl | (simp; done) | (simp [*]; done), by repeat (first | exact Drawn0.refl _ | apply Drawn0.step)⟩
              · replace c10 := Bool.eq_false_iff.mpr c10
                subst c10
                have H1 : (if a0 = 7 then (rung_named.j2 kj5 a0 (a0 == 7)) else (rung_named.j2 kj5 a0 (a0 == 8))) = some (r1, r2, r3, r4) := by rw [if_neg (show ¬ (false = true) by decide)] at H; exact H
                clear H
                have H := H1
                clear H1
                have HC11 := Aside0.mk H
                clear H
                go_upto_if 17 with (fail)
                go_cut [17] (fun v17 wc => ∃ (kq : Nat) (x17_10 : Bool), v17 = .bool x17_10 ∧ Aside0 (rung_named.j2 kq a0 x17_10 = some (r1, r2, r3, r4)) ∧ Aside0 (kq ≤ kj5) ∧ Drawn0 w wc)
                case first =>
                  have H := HC11.out
                  clear HC11
                  by_cases c12 : a0 = 7
                  · rw [if_pos c12] at H
                    have c12b0 : (a0 == 7) = true := beq_iff_eq.mpr c12
                    have c12b1 : (a0 != 7) = false := bne_eq_false_iff_eq.mpr c12
                    clear c12
                    (first | rw [c12b0] | (simp only [i64_w, i32_w]; rw [c12b0]) | skip)
                    have H' := Aside0.mk H
                    clear H
                    go_wp2
                    go_meet
                    case rel => exact ⟨_, ((a0 == 7)), (by first | rfl | (simp; done) | (simp [*]; done)), H', ⟨by have := HJ1.out; have := HJ5.out; first | omega | exact Nat.le_refl _⟩, by repeat (first | exact Drawn0.refl _ | apply Drawn0.step)⟩
                  · rw [if_neg c12] at H
                    have c12b0 : (a0 == 7) = false := beq_eq_false_iff_ne.mpr c12
                    have c12b1 : (a0 != 7) = true := bne_iff_ne.mpr c12
                    (first | rw [c12b0] | (simp only [i64_w, i32_w]; rw [c12b0]) | skip)
                    have H' := Aside0.mk H
                    clear H
                    go_wp2
                    go_meet
                    case rel => exact ⟨_, ((a0 == 8)), (by first | rfl | (simp; done) | (simp [*]; done)), H', ⟨by have := HJ1.out; have := HJ5.out; first | omega | exact Nat.le_refl _⟩, by repeat (first | exact Drawn0.refl _ | apply Drawn0.step)⟩
                case rest =>
                  clear HC11
                  obtain ⟨kq, x17_10, rfl, HA, HJ10, ⟨mc10, rfl⟩⟩ := hcut
                  cases kq with
                  | zero => exact absurd HA.out (by simp [rung_named.j2])
                  | succ kj10 =>
                    have H := HA.out
                    clear HA
                    simp only [rung_named.j2] at H
                    by_cases c13 : x17_10 = true
                    · subst c13
                      have H1 : (some (false, 2, 1, true)) = some (r1, r2, r3, r4) := by rw [if_pos rfl] at H; exact H
                      clear H
                      have H := H1
                      clear H1
                      simp only [Option.some.injEq, Prod.mk.injEq] at H
                      obtain ⟨rfl, rfl, rfl, rfl⟩ := H
                      go_wp2
                      refine bodyPost_ret (results_list (rs := [.tmp 2, .tmp 3, .tmp 4, .tmp 5]) rfl (by simp) (.tmp (.tmp (.tmp (.tmp .nil))))) rfl ?_
                      exact ⟨by first | rfl | (simp; done) | (simp [*]; done), by repeat (first | exact Drawn0.refl _ | apply Drawn0.step)⟩
                    · replace c13 := Bool.eq_false_iff.mpr c13
                      subst c13
                      have H1 : (if a0 = 9 then (some (false, 1, 1, true)) else (some (false, 0, 0, false))) = some (r1, r2, r3, r4) := by rw [if_neg (show ¬ (false = true) by decide)] at H; exact H
                      clear H
                      have H := H1
                      clear H1
                      by_cases c14 : a0 = 9
                      · rw [if_pos c14] at H
                        have c14b0 : (a0 == 9) = true := beq_iff_eq.mpr c14
                        have c14b1 : (a0 != 9) = false := bne_eq_false_iff_eq.mpr c14
                        clear c14
                        simp only [Option.some.injEq, Prod.mk.injEq] at H
                        obtain ⟨rfl, rfl, rfl, rfl⟩ := H
                        go_wp2
                        refine bodyPost_ret (results_list (rs := [.tmp 2, .tmp 3, .tmp 4, .tmp 5]) rfl (by simp) (.tmp (.tmp (.tmp (.tmp .nil))))) rfl ?_
                        exact ⟨by first | rfl | (simp; done) | (simp [*]; done), by repeat (first | exact Drawn0.refl _ | apply Drawn0.step)⟩
                      · rw [if_neg c14] at H
                        have c14b0 : (a0 == 9) = false := beq_eq_false_iff_ne.mpr c14
                        have c14b1 : (a0 != 9) = true := bne_iff_ne.mpr c14
                        simp only [Option.some.injEq, Prod.mk.injEq] at H
                        obtain ⟨rfl, rfl, rfl, rfl⟩ := H
                        go_wp2
                        refine bodyPost_ret (results_list (rs := [.tmp 2, .tmp 3, .tmp 4, .tmp 5]) rfl (by simp) (.tmp (.tmp (.tmp (.tmp .nil))))) rfl ?_
                        exact ⟨by first | rfl | (simp; done) | (simp [*]; done), by repeat (first | exact Drawn0.refl _ | apply Drawn0.step)⟩
end Go.Proofs.YtiaccdaeomaogaaDoor.F
namespace Go.Proofs.YtiaccdaeomaogaaDoor.F
open Go.RowKit Go.Proofs.YtiaccdaeomaogaaDoorW.PrintWords Go.Proofs.YtiaccdaeomaogaaDoorW.PrintLast Go.Proofs.YtiaccdaeomaogaaDoorW.PrintMore
attribute [local go_sem] max2_int min2_int max_two min_two max_three min_three max_four min_four   -- for this text's walks alone
set_option linter.unusedVariables false
set_option linter.unusedSimpArgs false
mutual
def namesF : Nat → Int → ByteArray → List S34 → List ByteArray → Option (List ByteArray)
  | 0, _, _, _, _ => none
  | k + 1, op, nm, ks, acc => if op = 1 then (if acc.length < 8796093022208 then some (acc ++ [nm]) else none) else namesL k ks acc
def namesL : Nat → List S34 → List ByteArray → Option (List ByteArray)
  | 0, _, _ => none
  | k + 1, ks, acc => match ks with
    | [] => some acc
    | x :: xs => (namesF k x.f0 x.f2 x.f3 acc).bind fun a => namesL k xs a
end
theorem names_mono : ∀ k, (∀ op nm ks acc, LeO (namesF k op nm ks acc) (namesF (k + 1) op nm ks acc)) ∧ (∀ ks acc, LeO (namesL k ks acc) (namesL (k + 1) ks acc))
  | 0 => ⟨fun _ _ _ _ r h => by simp [namesF] at h, fun _ _ r h => by simp [namesL] at h⟩
  | k + 1 => by
    obtain ⟨h1, h2⟩ := names_mono k
    refine ⟨fun op nm ks acc => ?_, fun ks acc => ?_⟩
    · rw [namesF, namesF]
      split
      · exact LeO.refl _
      · exact h2 _ _
    · cases ks with
      | nil => rw [namesL, namesL]; exact LeO.refl _
      | cons x xs => rw [namesL, namesL]; exact LeO.bind (h1 _ _ _ _) (fun _ => h2 _ _)
theorem drop_T34 {l : List S34} {i : Int} (h0 : 0 ≤ i) (h1 : i < l.length) : l.drop i.toNat = rd_T34 l i :: l.drop (i + 1).toNat := by
  have h : i.toNat < l.length := by omega
  rw [show (i + 1).toNat = i.toNat + 1 from by omega, List.drop_eq_getElem_cons h]
  unfold rd_T34; rw [List.getD, List.getElem?_eq_getElem h]; rfl
set_option maxHeartbeats 8000000 in
set_option maxRecDepth 100000 in
theorem names_calls (k : Nat) : ∀ (op n : Int) (nm : ByteArray) (A : Option Addr) (c : Nat) (ks : List S34) (v : Value) (l r : List ByteArray) (W w : World) (hr : Kd.C k34 W A ks.length ks) (hc : ks.length ≤ c) (hB : Below W.heap.size W w) (ho : Kd.R Kd.string 9 w W.heap.size (fun _ => True) v l) (h : namesF k op nm ks l = some r),
  Calls Tryd.prog 138 #[.agg #[.int .i64 op, .int .i64 n, .string nm, .slice A ks.length c], v] w fun e w' => ∃ v', e = .returned v' ∧ Kd.R Kd.string 9 w' W.heap.size (fun _ => True) v' r ∧ Below W.heap.size W w' := by
 induction k using Nat.strongRecOn with
 | _ k ih =>
 intro op n nm A c ks v l r W w hr hc hB ho h
 cases k with
 | zero => simp [namesF] at h
 | succ k =>
 rw [namesF] at h
 have hu34 := Tryd.underlying34
 have HB1 := Aside0.mk hB
 have HO1 := Aside0.mk ho
 have HR := Aside0.mk hr
 have HC := Aside0.mk hc
 clear hr hc hB ho
 by_cases h1 : op = 1
 ·subst h1
  rw [if_pos rfl] at h
  by_cases hl : l.length < 8796093022208
  ·rw [if_pos hl] at h
   obtain rfl := Option.some.inj h
   have HL := Aside0.mk hl
   obtain ⟨Ao, co, eo⟩ := Kd.R_slice HO1.out
   subst eo
   clear h hl
   go_enter Tryd.func138, Tryd.ntmps138
   go_wp2_with (first | ((with_reducible refine gate_dst (N := 2) rfl ?_); refine box_event ?hg (N := 2) ?hd (cs := #[.int .i64 1, .int .i64 n, .string nm, .slice A ks.length c]) (t := 34) ?hr ?_; (case hd => rfl); (case hg => rfl); (case hr => first | (go_simp; done) | (go_simp; rfl)); intro gb hg w4 hbox hb; have HB4 := Aside0.mk (below_step HB1.out hb); have HO4 := Aside0.mk (Kd.R_below HO1.out hb); clear hb hg; have hcz2 : w4.cell? ⟨gb, 2, none⟩ = some (.string nm) := (blk_cell hbox 2).trans rfl; have hcz0 : w4.cell? ⟨gb, 0, none⟩ = some (.int .i64 1) := (blk_cell hbox 0).trans rfl; clear hbox) | ((with_reducible refine gate_builtin (b := .append) (xs := #[.tmp 10, .tmp 13]) rfl ?_); at_builtin; refine Kd.R_append Kd.string (w0 := W) W.heap.size rfl (.tmp 10) (.tmp 13) 23 9 (.string ⟨#[]⟩) 16 rfl Tryd.underlying23 info9 rfl (by decide) (by omega) (.slice Ao l.length co) l nm [.string nm] (fun _ => True) (fun _ => False) rfl rfl ?aP (fun _ hk => hk.elim) ?aF ?aO ?aB ?aS ?aL ?_; (case aP => exact rfl); (case aB => exact HB4.out); (case aF => exact (fun _ _ => trivial)); (case aO => exact HO4.out); (case aS => exact HB4.out.size); (case aL => have := HL.out; omega); intro v2 w2 ho hb hg hat; have HO2 := Aside0.mk ho; have HB2 := Aside0.mk hb; clear ho hb hg hat))
   go_ret
   exact ⟨_, rfl, HO2.out, HB2.out⟩
  ·rw [if_neg hl] at h
   cases h
 ·rw [if_neg h1] at h
  have d1 : (op == 1) = false := beq_eq_false_iff_ne.mpr h1
  have HN := Aside0.mk h
  clear h h1
  go_enter Tryd.func138, Tryd.ntmps138
  go_wp2
  go_loopg [1, 18] ks.length (fun kq v1 v18 w' => ∃ (u : Value) (x : Int) (lc : List ByteArray) (kk : Nat), v1 = u ∧ v18 = .int .i64 x ∧ Aside0 (0 ≤ x ∧ x ≤ (ks.length : Int) ∧ (kq : Int) = ks.length - x) ∧ Aside0 (Kd.R Kd.string 9 w' W.heap.size (fun _ => True) u lc) ∧ Aside0 (Below W.heap.size W w') ∧ Aside0 (kk ≤ k ∧ namesL kk (ks.drop x.toNat) lc = some r))
  case atStart => exact ⟨v, 0, l, k, rfl, rfl, ⟨by omega, by omega, by omega⟩, ⟨by (with_reducible repeat (first | apply Kd.R_alloc | apply Kd.R_drewN | apply Kd.R_drew)); exact HO1.out⟩, ⟨by repeat (first | exact HB1.out | apply below_alloc | apply pw_below_drewN | apply below_drew1)⟩, ⟨Nat.le_refl _, by simpa using HN.out⟩⟩
  case round =>
   clear HN HO1 HB1
   obtain ⟨u, x, lc, kk, rfl, rfl, HK, HO, HB, HN⟩ := hrel
   by_cases hlt : x < (ks.length : Int)
   ·have p1 := HK.out.1
    have q1 := hlt
    obtain ⟨ad, A3, c3, e1, y0, y1, y2, y3, l3, g3⟩ := at_T34 HR.out x p1 q1
    cases e1
    have hx0 := pw_cell_below HB.out y0
    have hx1 := pw_cell_below HB.out y1
    have hx2 := pw_cell_below HB.out y2
    have hx3 := pw_cell_below HB.out y3
    obtain ⟨hk1, hn1⟩ := HN.out
    rw [drop_T34 p1 q1] at hn1
    generalize rd_T34 ks x = y at *
    cases kk with
    | zero => simp [namesL] at hn1
    | succ kk =>
    rw [namesL] at hn1
    obtain ⟨a, ha, hn1⟩ := Option.bind_eq_some_iff.mp hn1
    have HA := Aside0.mk ha
    have HN1 : Aside0 (kk ≤ k ∧ namesL kk (ks.drop (x + 1).toNat) a = some r) := ⟨by omega, hn1⟩
    have HKK : Aside0 (0 ≤ x ∧ x < (ks.length : Int) ∧ (gk : Int) = ks.length - x ∧ kk < k + 1) := ⟨by have := HK.out; omega⟩
    have HG3 := Aside0.mk g3
    have HL3 := Aside0.mk l3
    have c0 : decide (x < (ks.length : Int)) = true := decide_eq_true hlt
    have c1 : decide (0 ≤ x) = true := decide_eq_true p1
    replace p1 := eq_true p1
    replace q1 := eq_true q1
    clear hlt HK HN hk1 hn1 ha y0 y1 y2 y3 l3 g3
    go_wp2_with (first | (go_at_call 138; refine (ih kk (by have := HKK.out; omega) y.f0 y.f1 y.f2 A3 c3 y.f3 _ lc a W _ HG3.out HL3.out ?hb ?ho HA.out).mono ?_; (case hb => repeat (first | exact HB.out | apply below_alloc)); (case ho => (with_reducible repeat (first | apply Kd.R_alloc | apply Kd.R_drewN | apply Kd.R_drew)); exact HO.out); rintro e w5 ⟨v5, rfl, ho, hb⟩; have HO5 := Aside0.mk ho; have HB5 := Aside0.mk hb; clear ho hb))
    go_roundg (gk - 1)
    case measure => have := HKK.out; omega
    case rel => exact ⟨v5, wrap64 (x + 1), a, kk, rfl, rfl, ⟨by have := HKK.out; have := HC.out; have := HR.out.2.1; unfold wrap64; omega⟩, HO5, HB5, ⟨HN1.out.1, by rw [show wrap64 (x + 1) = x + 1 from by have := HKK.out; have := HR.out.2.1; unfold wrap64; omega]; exact HN1.out.2⟩⟩
   ·have he : x = ks.length := by have := HK.out; omega
    subst he
    have c0 : decide ((ks.length : Int) < (ks.length : Int)) = false := decide_eq_false (by omega)
    have hn := HN.out.2
    rw [List.drop_eq_nil_of_le (by omega)] at hn
    have hlr : lc = r := by
     cases kk with
     | zero => simp [namesL] at hn
     | succ kk => rw [namesL] at hn; simpa using hn
    subst hlr
    clear HK hlt hn HN
    go_wp2
    go_ret
    exact ⟨_, rfl, HO.out, HB.out⟩
end Go.Proofs.YtiaccdaeomaogaaDoor.F
namespace Go.Proofs.YtiaccdaeomaogaaDoor.F
open Go.RowKit Go.Proofs.YtiaccdaeomaogaaDoorW.PrintWords Go.Proofs.YtiaccdaeomaogaaDoorW.PrintLast Go.Proofs.YtiaccdaeomaogaaDoorW.PrintMore
attribute [local go_sem] max2_int min2_int max_two min_two max_three min_three max_four min_four   -- for this text's walks alone
set_option linter.unusedVariables false
set_option linter.unusedSimpArgs false
def srtL (l : List ByteArray) : List (List UInt8) := (l.map (·.data.toList)).mergeSort fun x y => decide (x ≤ y)
def cmpL (l : List ByteArray) : List (List UInt8) := Lib.compact (srtL l)
def ofL (l : List (List UInt8)) : List ByteArray := l.map fun b => ⟨b.toArray⟩
def namesOut (l : List ByteArray) : List ByteArray := ofL (cmpL l)
theorem encs_ofL (l : List (List UInt8)) : encs Value.string (ofL l) = l.map encStr := by
  unfold encs ofL
  rw [List.map_map]
  apply List.map_congr_left
  intro x _
  simp [Proofs.encStr]
theorem namesOut_len (l : List ByteArray) : (namesOut l).length = (cmpL l).length := by simp [namesOut, ofL]
theorem namesOut_nil : namesOut [] = [] := by simp [namesOut, ofL, cmpL, srtL, Lib.compact]; rfl
def expr_Names.f (k : Nat) (a0_0 : Int) (a0_1 : Int) (a0_2 : ByteArray) (l0_3 : List (S34)) : Option (List ByteArray) := (expr_May.f k a0_0 a0_1 a0_2 l0_3).bind fun t => if t = true then ((namesF k a0_0 a0_2 l0_3 []).bind fun l => if l.length < 8796093022208 then some (namesOut l) else none) else some []
theorem expr_Names.mono : ∀ a0 a1 a2 a3 k, LeO (expr_Names.f k a0 a1 a2 a3) (expr_Names.f (k + 1) a0 a1 a2 a3) := by
  intro a0 a1 a2 a3 k
  unfold expr_Names.f
  exact LeO.bind (expr_May.mono _ _ _ _ _) (fun t => LeO.ite (LeO.bind ((names_mono k).1 _ _ _ _) (fun l => LeO.refl _)) (LeO.refl _))
theorem sorted_own {w w1 : World} {g cap nn q : Nat} {os : Array Obj} {l : List ByteArray} (hown : w1.ownsRow w.heap.size 9 1 (.slice (some ⟨g, 0, none⟩) l.length cap) l.length ((l.map (·.data.toList)).map encStr)) (hbel : Below w.heap.size w w1) (hbg : w.heap.size ≤ g) :
  Kd.R Kd.string 9 (Sort.putRow encStr (Sort.ahead (Sort.grow (Sort.putRow encStr (Sort.ahead w1 nn) g 0 (srtL l).toArray) os) q) g 0 (cmpL l ++ List.replicate (l.length - (cmpL l).length) []).toArray) w.heap.size (fun _ => True) (.slice (some ⟨g, 0, none⟩) (cmpL l).length cap) (namesOut l) ∧
  Below w.heap.size w (Sort.putRow encStr (Sort.ahead (Sort.grow (Sort.putRow encStr (Sort.ahead w1 nn) g 0 (srtL l).toArray) os) q) g 0 (cmpL l ++ List.replicate (l.length - (cmpL l).length) []).toArray) := by
 have hl2 : (srtL l).length = l.length := by unfold srtL; rw [List.length_mergeSort, List.length_map]
 have hle : (cmpL l).length ≤ (srtL l).length := Lib.compact_length_le (srtL l)
 rcases hown.2 with ⟨h0, _⟩ | ⟨g', cap', cur, hv, hbase, hb, h1, h2, h3, h4⟩
 ·cases h0
 cases hv
 have hs := ownsRow_sorted (n := nn) (os := os) (ss := srtL l) (ts := srtL l) rfl hbase hb (by rw [hl2]; exact h1) h2 h3
 have hc := Lib.ownsRow_putRow (q := q) (k := (cmpL l).length) (ys := cmpL l ++ List.replicate ((srtL l).length - (cmpL l).length) []) hs (by simp; omega) (by omega)
 rw [List.take_left, hl2] at hc
 refine ⟨Kd.R_of_own ?_ (fun _ _ => trivial), Lib.below_putRow (hbel.grown (grownBy_sorted _) hbel.size (fun j hj => by cases hj; exact hbase)) hbg⟩
 rw [namesOut_len]
 unfold namesOut
 rw [encs_ofL]
 exact hc
set_option maxHeartbeats 8000000 in
set_option maxRecDepth 100000 in
theorem expr_Names.calls (k : Nat) (a0_0 : Int) (a0_1 : Int) (a0_2 : ByteArray) (A0_3 : Option Addr) (c0_3 : Nat) (l0_3 : List (S34)) (r : List ByteArray) (w : World) (hr0_3 : Kd.C k34 w A0_3 l0_3.length l0_3) (hc0_3 : l0_3.length ≤ c0_3) (h : expr_Names.f k a0_0 a0_1 a0_2 l0_3 = some r) (hT : UT w) :
    Calls Tryd.prog 106 #[.agg #[.int .i64 a0_0, .int .i64 a0_1, .string a0_2, .slice A0_3 l0_3.length c0_3]] w fun e w' => ∃ v0_ : Value, e = .returned (v0_) ∧ Kd.R Kd.string 9 w' w.heap.size (fun _ => True) v0_ r ∧ Below w.heap.size w w' := by
  have HT := Aside0.mk hT
  have HR := Aside0.mk hr0_3
  have HC := Aside0.mk hc0_3
  have hu34 := Tryd.underlying34
  unfold expr_Names.f at h
  obtain ⟨t, ht, h⟩ := Option.bind_eq_some_iff.mp h
  have HM := Aside0.mk ht
  clear hT hr0_3 hc0_3 ht
  cases t with
  | false =>
    rw [if_neg (by decide)] at h
    obtain rfl := Option.some.inj h
    clear h
    go_enter Tryd.func106, Tryd.ntmps106
    go_wp2_with (first | ((with_reducible refine gate_dst (N := 1) rfl ?_); refine box_event ?hg (N := 1) ?hd (cs := #[.int .i64 a0_0, .int .i64 a0_1, .string a0_2, .slice A0_3 l0_3.length c0_3]) (t := 34) ?hr ?_; (case hd => rfl); (case hg => rfl); (case hr => first | (go_simp; done) | (go_simp; rfl)); intro gb hg w4 hbox hb; have HB4 := Aside0.mk hb; clear hb hg; have hcz0 : w4.cell? ⟨gb, 0, none⟩ = some (.int .i64 a0_0) := (blk_cell hbox 0).trans rfl; have hcz1 : w4.cell? ⟨gb, 1, none⟩ = some (.int .i64 a0_1) := (blk_cell hbox 1).trans rfl; have hcz2 : w4.cell? ⟨gb, 2, none⟩ = some (.string a0_2) := (blk_cell hbox 2).trans rfl; have hcz3 : w4.cell? ⟨gb, 3, none⟩ = some (.slice A0_3 l0_3.length c0_3) := (blk_cell hbox 3).trans rfl; clear hbox) | (go_at_call 29; refine (expr_May.calls k a0_0 a0_1 a0_2 A0_3 c0_3 l0_3 false _ (Kd.C_below HR.out HB4.out) HC.out HM.out (UT.below HT.out HB4.out)).mono ?_; rintro e w5 ⟨rfl, hb⟩; have HB5 := Aside0.mk (below_step HB4.out hb); clear hb))
    go_ret
    exact ⟨_, rfl, Kd.R_nil _ _ _ _ _, HB5.out⟩
  | true =>
    rw [if_pos rfl] at h
    obtain ⟨l, hl, h⟩ := Option.bind_eq_some_iff.mp h
    by_cases hn : l.length < 8796093022208
    case neg => rw [if_neg hn] at h; cases h
    rw [if_pos hn] at h
    obtain rfl := Option.some.inj h
    have HN := Aside0.mk hl
    have HL := Aside0.mk hn
    clear h hl hn
    by_cases hz : l = []
    · subst hz
      rw [namesOut_nil]
      go_enter Tryd.func106, Tryd.ntmps106
      go_wp2_with (first | ((with_reducible refine gate_dst (N := 1) rfl ?_); refine box_event ?hg (N := 1) ?hd (cs := #[.int .i64 a0_0, .int .i64 a0_1, .string a0_2, .slice A0_3 l0_3.length c0_3]) (t := 34) ?hr ?_; (case hd => rfl); (case hg => rfl); (case hr => first | (go_simp; done) | (go_simp; rfl)); intro gb hg w4 hbox hb; have HB4 := Aside0.mk hb; have HK4 := Aside0.mk hbox; clear hb hg; have hcz0 : w4.cell? ⟨gb, 0, none⟩ = some (.int .i64 a0_0) := (blk_cell hbox 0).trans rfl; have hcz1 : w4.cell? ⟨gb, 1, none⟩ = some (.int .i64 a0_1) := (blk_cell hbox 1).trans rfl; have hcz2 : w4.cell? ⟨gb, 2, none⟩ = some (.string a0_2) := (blk_cell hbox 2).trans rfl; have hcz3 : w4.cell? ⟨gb, 3, none⟩ = some (.slice A0_3 l0_3.length c0_3) := (blk_cell hbox 3).trans rfl; clear hbox) | (go_at_call 29; refine (expr_May.calls k a0_0 a0_1 a0_2 A0_3 c0_3 l0_3 true _ (Kd.C_below HR.out HB4.out) HC.out HM.out (UT.below HT.out HB4.out)).mono ?_; rintro e w5 ⟨rfl, hb⟩; have HB5 := Aside0.mk (below_step HB4.out hb); have hbox := blk_below HK4.out hb; have hcy0 : w5.cell? ⟨gb, 0, none⟩ = some (.int .i64 a0_0) := (blk_cell hbox 0).trans rfl; have hcy1 : w5.cell? ⟨gb, 1, none⟩ = some (.int .i64 a0_1) := (blk_cell hbox 1).trans rfl; have hcy2 : w5.cell? ⟨gb, 2, none⟩ = some (.string a0_2) := (blk_cell hbox 2).trans rfl; have hcy3 : w5.cell? ⟨gb, 3, none⟩ = some (.slice A0_3 l0_3.length c0_3) := (blk_cell hbox 3).trans rfl; clear hb hbox) | (go_at_call 138; refine (names_calls k a0_0 a0_1 a0_2 A0_3 c0_3 l0_3 (.slice none 0 0) [] [] w _ HR.out HC.out HB5.out (Kd.R_nil _ _ _ _ _) HN.out).mono ?_; rintro e w6 ⟨v6, rfl, ho, hb⟩; obtain ⟨A6, c6, e6⟩ := Kd.R_slice ho; subst e6; have HB6 := Aside0.mk hb; have HO6 := Aside0.mk ho; clear ho hb) | (go_at_call 139; refine (Tryd.slices_Sort_string_none _ _ _).mono ?_; rintro e w7 ⟨rfl, rfl⟩) | (go_at_call 140; refine (Tryd.slices_Compact_string_empty _ _ _).mono ?_; rintro e w8 ⟨rfl, rfl⟩))
      go_ret
      exact ⟨_, rfl, HO6.out, HB6.out⟩
    · have HZ := Aside0.mk hz
      clear hz
      obtain ⟨ll, hll⟩ : ∃ ll, ll = l.length := ⟨_, rfl⟩
      have HLL := Aside0.mk hll
      have hl2 : (srtL l).length = l.length := by unfold srtL; rw [List.length_mergeSort, List.length_map]
      have HL2 := Aside0.mk hl2
      clear hll hl2
      go_enter Tryd.func106, Tryd.ntmps106
      go_wp2_with (first | ((with_reducible refine gate_dst (N := 1) rfl ?_); refine box_event ?hg (N := 1) ?hd (cs := #[.int .i64 a0_0, .int .i64 a0_1, .string a0_2, .slice A0_3 l0_3.length c0_3]) (t := 34) ?hr ?_; (case hd => rfl); (case hg => rfl); (case hr => first | (go_simp; done) | (go_simp; rfl)); intro gb hg w4 hbox hb; have HB4 := Aside0.mk hb; have HK4 := Aside0.mk hbox; clear hb hg; have hcz0 : w4.cell? ⟨gb, 0, none⟩ = some (.int .i64 a0_0) := (blk_cell hbox 0).trans rfl; have hcz1 : w4.cell? ⟨gb, 1, none⟩ = some (.int .i64 a0_1) := (blk_cell hbox 1).trans rfl; have hcz2 : w4.cell? ⟨gb, 2, none⟩ = some (.string a0_2) := (blk_cell hbox 2).trans rfl; have hcz3 : w4.cell? ⟨gb, 3, none⟩ = some (.slice A0_3 l0_3.length c0_3) := (blk_cell hbox 3).trans rfl; clear hbox) | (go_at_call 29; refine (expr_May.calls k a0_0 a0_1 a0_2 A0_3 c0_3 l0_3 true _ (Kd.C_below HR.out HB4.out) HC.out HM.out (UT.below HT.out HB4.out)).mono ?_; rintro e w5 ⟨rfl, hb⟩; have HB5 := Aside0.mk (below_step HB4.out hb); have hbox := blk_below HK4.out hb; have hcy0 : w5.cell? ⟨gb, 0, none⟩ = some (.int .i64 a0_0) := (blk_cell hbox 0).trans rfl; have hcy1 : w5.cell? ⟨gb, 1, none⟩ = some (.int .i64 a0_1) := (blk_cell hbox 1).trans rfl; have hcy2 : w5.cell? ⟨gb, 2, none⟩ = some (.string a0_2) := (blk_cell hbox 2).trans rfl; have hcy3 : w5.cell? ⟨gb, 3, none⟩ = some (.slice A0_3 l0_3.length c0_3) := (blk_cell hbox 3).trans rfl; clear hb hbox) | (go_at_call 138; refine (names_calls k a0_0 a0_1 a0_2 A0_3 c0_3 l0_3 (.slice none 0 0) [] l w _ HR.out HC.out HB5.out (Kd.R_nil _ _ _ _ _) HN.out).mono ?_; rintro e w6 ⟨v6, rfl, ho, hb⟩; have hown := Kd.own_of_R ho; have hne : v6 ≠ .slice none 0 0 := (fun e0 => HZ.out (by obtain ⟨A9, c9, e9⟩ := Kd.R_slice ho; rw [e0] at e9; injection e9 with _ e9 _; exact List.eq_nil_of_length_eq_zero e9.symm)); have hown2 : w6.ownsRow w.heap.size 9 1 v6 l.length ((l.map (·.data.toList)).map encStr) := (by rw [Lib.map_encStr]; exact hown); obtain ⟨g, cap, e6, hbg, hgl, hncap, hcm, hlen, hH⟩ := Lib.holds_of_ownsRow hown2 hne; subst e6; have HB6 := Aside0.mk hb; have HO6 := Aside0.mk hown2; have HG6 := Aside0.mk hbg; have HNC := Aside0.mk hncap; have hsort := Tryd.slices_Sort_string g 0 cap (l.map (·.data.toList)) w6 hH hgl (by rw [List.length_map]; have := HL.out; omega); rw [List.length_map] at hsort; have HS6 := Aside0.mk hsort; have HH6 := Aside0.mk hH; have HGL := Aside0.mk hgl; clear ho hb hown hown2 hne hH hsort hbg hgl hncap hcm hlen) | (go_at_call 139; refine HS6.out.mono ?_; rintro e w7 ⟨rfl, nn, os, rfl⟩; have hH2 : Sort.Holds encStr (Sort.grow (Sort.putRow encStr (Sort.ahead w6 nn) g 0 (srtL l).toArray) os) g 0 (srtL l).toArray := Sort.holds_grow encStr _ os g 0 _ (by simpa [Sort.putRow, Sort.mapBlock, Sort.ahead] using HGL.out) (Sort.holds_putRow encStr _ g 0 _ _ (Sort.holds_ahead encStr w6 nn g 0 _ HH6.out) (by simp [srtL])); have hcomp := Tryd.slices_Compact_string g 0 cap (srtL l) _ hH2 (by have := HL2.out; have := HL.out; omega) (by have := HL2.out; have := HNC.out; omega); rw [HL2.out] at hcomp; have HCo := Aside0.mk hcomp; clear hH2 hcomp) | (go_at_call 140; refine HCo.out.mono ?_; rintro e w8 ⟨rfl, q, rfl⟩))
      go_ret
      exact ⟨_, rfl, (sorted_own HO6.out HB6.out HG6.out).1, (sorted_own HO6.out HB6.out HG6.out).2⟩
end Go.Proofs.YtiaccdaeomaogaaDoor.F
namespace Go.Proofs.YtiaccdaeomaogaaDoor.F
open Go.RowKit Go.Proofs.YtiaccdaeomaogaaDoorW.PrintWords Go.Proofs.YtiaccdaeomaogaaDoorW.PrintLast Go.Proofs.YtiaccdaeomaogaaDoorW.PrintMore
attribute [local go_sem] max2_int min2_int max_two min_two max_three min_three max_four min_four   -- for this text's walks alone
set_option linter.unusedVariables false
set_option linter.unusedSimpArgs false
def rung_strange.l0 : Nat → List ByteArray → List ByteArray → Int → Int → Option (Bool)
  | 0, _, _, _, _ => none
  | k + 1, x1, x8, x9, x10 => if x10 < x9 then (if 0 ≤ x10 then (if x10 < (x8.length : Int) then ((slices_Contains_string_string.f k x1 (rdOf ByteArray.empty x8 x10)).bind fun t106 => (if t106 = true then (rung_strange.l0 k x1 x8 x9 (wrap64 (x10 + 1))) else (some true))) else (none)) else (none)) else (some false)
def rung_strange.f (k : Nat) (a0_0 : Int) (a0_1 : Int) (a0_2 : ByteArray) (l0_3 : List (S34)) (l1 : List ByteArray) : Option (Bool) := (expr_Names.f k a0_0 a0_1 a0_2 l0_3).bind fun t102 => (rung_strange.l0 k l1 t102 (t102.length : Int) 0)
theorem rung_strange.mono_l : ∀ k, (∀ y0 y1 y2 y3, LeO (rung_strange.l0 k y0 y1 y2 y3) (rung_strange.l0 (k + 1) y0 y1 y2 y3))
  | 0 => fun _ _ _ _ r h => by simp [rung_strange.l0] at h
  | k + 1 => by
    have ih0 := rung_strange.mono_l k
    · intro y0 y1 y2 y3
      unfold rung_strange.l0
      repeat' first
      | (with_reducible exact ih0 _ _ _ _)
      | (with_reducible exact expr_Names.mono _ _ _ _ _)
      | (with_reducible exact slices_Contains_string_string.mono _ _ _)
      | (with_reducible exact LeO.refl _)
      | (with_reducible exact LeO.none _)
      | (with_reducible refine LeO.ite ?_ ?_)
      | (with_reducible refine LeO.bind ?_ (fun _ => ?_))
      | exact ih0 _ _ _ _
      | exact expr_Names.mono _ _ _ _ _
      | exact slices_Contains_string_string.mono _ _ _
      | exact LeO.none _
      | refine LeO.ite ?_ ?_
      | refine LeO.bind ?_ (fun _ => ?_)
theorem rung_strange.mono : ∀ a0 a1 a2 a3 a4 k, LeO (rung_strange.f k a0 a1 a2 a3 a4) (rung_strange.f (k + 1) a0 a1 a2 a3 a4) := by
  intro a0 a1 a2 a3 a4 k
  have ih0 := rung_strange.mono_l k
  unfold rung_strange.f
  repeat' first
      | (with_reducible exact ih0 _ _ _ _)
      | (with_reducible exact expr_Names.mono _ _ _ _ _)
      | (with_reducible exact slices_Contains_string_string.mono _ _ _)
      | (with_reducible exact LeO.refl _)
      | (with_reducible exact LeO.none _)
      | (with_reducible refine LeO.ite ?_ ?_)
      | (with_reducible refine LeO.bind ?_ (fun _ => ?_))
      | exact ih0 _ _ _ _
      | exact expr_Names.mono _ _ _ _ _
      | exact slices_Contains_string_string.mono _ _ _
      | exact LeO.none _
      | refine LeO.ite ?_ ?_
      | refine LeO.bind ?_ (fun _ => ?_)
set_option maxHeartbeats 8000000 in
set_option maxRecDepth 100000 in
theorem rung_strange.calls (k : Nat) (a0_0 : Int) (a0_1 : Int) (a0_2 : ByteArray) (A0_3 : Option Addr) (c0_3 : Nat) (l0_3 : List (S34)) (A1 : Option Addr) (c1 : Nat) (l1 : List ByteArray) (r : Bool) (w : World) (hr0_3 : Kd.C k34 w A0_3 l0_3.length l0_3) (hc0_3 : l0_3.length ≤ c0_3) (hr1 : Kd.C Kd.string w A1 l1.length l1) (hc1 : l1.length ≤ c1) (h : rung_strange.f k a0_0 a0_1 a0_2 l0_3 l1 = some r) (hN : A1 ≠ none) (hT : UT w) :
    Calls Tryd.prog 123 #[.agg #[.int .i64 a0_0, .int .i64 a0_1, .string a0_2, .slice A0_3 l0_3.length c0_3], .slice A1 l1.length c1] w fun e w' => e = .returned (.bool r) ∧ Below w.heap.size w w' := by
  have HT0 := Aside0.mk hT
  clear hT
  have hN2 : ∀ w' : World, (binOp .neq 23 (.slice A1 l1.length c1) (.slice none 0 0)).run Tryd.prog w' = .ok (.bool true) w' := fun w' => by rw [Go.run_neq_slice_nil w' 23 9 A1 l1.length c1 Tryd.underlying23]; cases h_ : A1 with | none => exact absurd h_ hN | some _ => rfl
  have HNL := Aside0.mk hN
  clear hN
  have hu34 := Tryd.underlying34
  have HR0_3 := Aside0.mk hr0_3
  have HC0_3 := Aside0.mk hc0_3
  clear hr0_3 hc0_3
  have HR1 := Aside0.mk hr1
  have HC1 := Aside0.mk hc1
  clear hr1 hc1
  have HB := Aside0.mk (Below.refl w.heap.size w)
  have H : ((expr_Names.f k a0_0 a0_1 a0_2 l0_3).bind fun t102 => (rung_strange.l0 k l1 t102 (t102.length : Int) 0)) = some r := h
  clear h
  replace H := Option.bind_eq_some_iff.mp H
  obtain ⟨t102, A30, H⟩ := H
  replace H : (rung_strange.l0 k l1 t102 (t102.length : Int) 0) = some r := H
  have A3 := Aside0.mk A30
  clear A30
  have H' := Aside0.mk H
  clear H
  go_enter Tryd.func123, Tryd.ntmps123
  go_wp2_with (first | ((with_reducible refine gate_dst (N := 2) rfl ?_); refine box_event ?hg (N := 2) ?hd (cs := #[.int .i64 a0_0, .int .i64 a0_1, .string a0_2, .slice A0_3 l0_3.length c0_3]) (t := 34) ?hr ?_; (case hd => rfl); (case hg => rfl); (case hr => first | (go_simp; done) | (go_simp; rfl)); intro gb101 hg w4 hbox hb; have n0_ := Aside0.mk (below_step (by repeat (first | (with_reducible first | exact HB.out | apply below_alloc | apply pw_below_drewN | apply below_drew1) | exact HB.out)) hb); have n1_ := Aside0.mk (hbox); have n2_ := Aside0.mk ((by rw [hg]; exact (below_size (by repeat (first | (with_reducible first | exact HB.out | apply below_alloc | apply pw_below_drewN | apply below_drew1) | exact HB.out))) : w.heap.size ≤ gb101)); have n3_ := Aside0.mk ((by rw [hg]; exact (below_size (by repeat (first | (with_reducible first | exact HB.out | apply below_alloc | apply pw_below_drewN | apply below_drew1) | exact HB.out))) : w.heap.size ≤ gb101)); clear HB; have HB := n0_; have BK101 := n1_; have GW101 := n2_; have GE101 := n3_; clear n0_ n1_ n2_ n3_; clear hb hbox hg; have hcz5_0 : w4.cell? ⟨gb101, 0, none⟩ = some (.int .i64 a0_0) := (blk_cell BK101.out 0).trans rfl; have hcz5_1 : w4.cell? ⟨gb101, 1, none⟩ = some (.int .i64 a0_1) := (blk_cell BK101.out 1).trans rfl; have hcz5_2 : w4.cell? ⟨gb101, 2, none⟩ = some (.string a0_2) := (blk_cell BK101.out 2).trans rfl; have hcz5_3 : w4.cell? ⟨gb101, 3, none⟩ = some (.slice A0_3 l0_3.length c0_3) := (blk_cell BK101.out 3).trans rfl; have hfz5_0 := blk_frozen BK101.out 0; have hfz5_1 := blk_frozen BK101.out 1; have hfz5_2 := blk_frozen BK101.out 2; have hfz5_3 := blk_frozen BK101.out 3) | ((with_reducible refine gate_callee (f := 106) rfl ?_); refine goesL_ (some 8) rfl rfl Tryd.func106 (by kernel_rfl) rfl #[.agg #[.int .i64 a0_0, .int .i64 a0_1, .string a0_2, .slice A0_3 l0_3.length c0_3]] rfl (by (try simp only [List.map_toArray, List.map_cons, List.map_nil]); first | done | rfl | (simp only [List.length_drop, List.length_take]; rfl)) ?_; (with_reducible refine (expr_Names.calls k a0_0 a0_1 a0_2 _ _ l0_3 t102 _ ?side1 ?side2 A3.out (by first | exact HT0.out | exact UT.below HT0.out (by repeat (first | (with_reducible first | exact HB.out | apply below_alloc | apply pw_below_drewN | apply below_drew1 | refine below_set ?_ GE101.out) | exact HB.out)))).mono ?_); (case side1 => repeat (first | exact (Kd.C_below HR0_3.out HB.out) | (with_reducible refine Kd.C_alloc ?_ _) | (with_reducible refine Kd.C_drewN ?_ _) | (with_reducible refine Kd.C_drew ?_))); (case side2 => exact HC0_3.out); rintro e w6 ⟨v103, rfl, ho0, hb⟩; refine ⟨_, rfl, ?_⟩; have n0_ := Aside0.mk (Kd.R_lower ho0 (below_size (by repeat (first | (with_reducible first | exact HB.out | apply below_alloc | apply pw_below_drewN | apply below_drew1 | refine below_set ?_ GE101.out) | exact HB.out)))); have n1_ := Aside0.mk (blk_below (g := gb101) (o := .cells #[.int .i64 a0_0, .int .i64 a0_1, .string a0_2, .slice A0_3 l0_3.length c0_3] 34 (0, 0)) (by (with_reducible repeat (first | refine blk_drewN ?_ _ | refine blk_drew ?_ | refine blk_alloc ?_ _)); exact BK101.out) hb); have n2_ := Aside0.mk (below_step (by repeat (first | (with_reducible first | exact HB.out | apply below_alloc | apply pw_below_drewN | apply below_drew1 | refine below_set ?_ GE101.out) | exact HB.out)) hb); clear BK101; clear HB; have HO104 := n0_; have BK101 := n1_; have HB := n2_; clear n0_ n1_ n2_; (try clear hb); (try clear hb2); (try clear hk); (try clear hi); (try clear ho0); obtain ⟨Ao7, co7, eo7⟩ := Kd.R_slice HO104.out; subst eo7))
  go_loopg [10] k (fun kq v10 w' => ∃ (x10_1 : Int), v10 = .int .i64 x10_1 ∧ Aside0 (rung_strange.l0 kq l1 t102 (t102.length : Int) x10_1 = some r) ∧ Aside0 (kq ≤ k) ∧ Aside0 (Kd.R Kd.string 9 w' w.heap.size (fun _ => True) (.slice Ao7 t102.length co7) t102) ∧ Aside0 (w'.heap[gb101]? = some (.cells #[.int .i64 a0_0, .int .i64 a0_1, .string a0_2, (.slice A0_3 l0_3.length c0_3)] 34 (0, 0))) ∧ Aside0 (Below w.heap.size w w'))
  case atStart => exact ⟨(0), (by first | rfl | (simp; done) | (simp [*]; done)), H', ⟨Nat.le_refl _⟩, ⟨by (with_reducible repeat (first | apply Kd.R_alloc | apply Kd.R_drewN | apply Kd.R_drew)); exact HO104.out⟩, ⟨by (with_reducible repeat (first | refine blk_drewN ?_ _ | refine blk_drew ?_ | refine blk_alloc ?_ _)); exact BK101.out⟩, ⟨by repeat (first | (with_reducible first | exact HB.out | apply below_alloc | apply pw_below_drewN | apply below_drew1 | refine below_set ?_ GE101.out) | exact HB.out)⟩⟩
  case round =>
    clear H'
    obtain ⟨x10_1, rfl, HA, HK1, HO_8, BK101, HB⟩ := hrel
    cases gk with
    | zero => exact absurd HA.out (by simp [rung_strange.l0])
    | succ k1 =>
      have H := HA.out
      clear HA
      simp only [rung_strange.l0] at H
      by_cases c8 : x10_1 < (t102.length : Int)
      · rw [if_pos c8] at H
        have c8b0 : decide (x10_1 < (t102.length : Int)) = true := decide_eq_true c8
        clear c8
        by_cases c9 : 0 ≤ x10_1
        · rw [if_pos c9] at H
          have c9b0 : decide (0 ≤ x10_1) = true := decide_eq_true c9
          clear c9
          by_cases c10 : x10_1 < (t102.length : Int)
          · rw [if_pos c10] at H
            have c10b0 : decide (x10_1 < (t102.length : Int)) = true := decide_eq_true c10
            clear c10
            replace H := Option.bind_eq_some_iff.mp H
            obtain ⟨t106, A110, H⟩ := H
            replace H : (if t106 = true then (rung_strange.l0 k1 l1 t102 (t102.length : Int) (wrap64 (x10_1 + 1))) else (some true)) = some r := H
            have A11 := Aside0.mk A110
            clear A110
            by_cases c12 : t106 = true
            · subst c12
              have H1 : (rung_strange.l0 k1 l1 t102 (t102.length : Int) (wrap64 (x10_1 + 1))) = some r := by rw [if_pos rfl] at H; exact H
              clear H
              have H := H1
              clear H1
              have H' := Aside0.mk H
              clear H
              have p105 : 0 ≤ (x10_1 : Int) := of_decide_eq_true (by first | (with_reducible assumption) | assumption)
              have q105 : x10_1 < (t102.length : Int) := of_decide_eq_true (by first | (with_reducible assumption) | assumption)
              obtain ⟨ad105, e105, hx105_0⟩ := Kd.at_string (Kd.R_reads' HO_8.out).2.2 x10_1 p105 q105
              cases e105
              replace p105 := eq_true p105
              replace q105 := eq_true q105
              go_wp2_with (first | (go_at_call 61; (with_reducible refine (slices_Contains_string_string.calls k1 _ _ l1 (rdOf ByteArray.empty t102 x10_1) true _ ?side1 ?side2 A11.out).mono ?_); (case side1 => repeat (first | exact (Kd.C_below HR1.out HB.out) | (with_reducible refine Kd.C_alloc ?_ _) | (with_reducible refine Kd.C_drewN ?_ _) | (with_reducible refine Kd.C_drew ?_))); (case side2 => exact HC1.out); rintro e w' ⟨rfl, ⟨nd, rfl⟩⟩))
              go_roundg k1
              case measure => have := HK1.out; omega
              case rel => exact ⟨(wrap64 (x10_1 + 1)), (by first | rfl | (simp; done) | (simp [*]; done)), H', ⟨by have := HK1.out; omega⟩, ⟨by (with_reducible repeat (first | apply Kd.R_alloc | apply Kd.R_drewN | apply Kd.R_drew)); exact HO_8.out⟩, ⟨by (with_reducible repeat (first | refine blk_drewN ?_ _ | refine blk_drew ?_ | refine blk_alloc ?_ _)); exact BK101.out⟩, ⟨by repeat (first | (with_reducible first | exact HB.out | apply below_alloc | apply pw_below_drewN | apply below_drew1 | refine below_set ?_ GE101.out) | exact HB.out)⟩⟩
            · replace c12 := Bool.eq_false_iff.mpr c12
              subst c12
              have H1 : (some true) = some r := by rw [if_neg (show ¬ (false = true) by decide)] at H; exact H
              clear H
              have H := H1
              clear H1
              obtain rfl := Option.some.inj H
              have p105 : 0 ≤ (x10_1 : Int) := of_decide_eq_true (by first | (with_reducible assumption) | assumption)
              have q105 : x10_1 < (t102.length : Int) := of_decide_eq_true (by first | (with_reducible assumption) | assumption)
              obtain ⟨ad105, e105, hx105_0⟩ := Kd.at_string (Kd.R_reads' HO_8.out).2.2 x10_1 p105 q105
              cases e105
              replace p105 := eq_true p105
              replace q105 := eq_true q105
              go_wp2_with (first | (go_at_call 61; (with_reducible refine (slices_Contains_string_string.calls k1 _ _ l1 (rdOf ByteArray.empty t102 x10_1) false _ ?side1 ?side2 A11.out).mono ?_); (case side1 => repeat (first | exact (Kd.C_below HR1.out HB.out) | (with_reducible refine Kd.C_alloc ?_ _) | (with_reducible refine Kd.C_drewN ?_ _) | (with_reducible refine Kd.C_drew ?_))); (case side2 => exact HC1.out); rintro e w' ⟨rfl, ⟨nd, rfl⟩⟩))
              go_ret
              exact ⟨by first | rfl | (simp [errW_none, errW_some] <;> rfl) | (simp [*, errW_none, errW_some] <;> rfl), by repeat (first | (with_reducible first | exact HB.out | apply below_alloc | apply pw_below_drewN | apply below_drew1 | refine below_set ?_ GE101.out) | exact HB.out)⟩
          · rw [if_neg c10] at H
            exact absurd H (by simp)
        · rw [if_neg c9] at H
          exact absurd H (by simp)
      · rw [if_neg c8] at H
        have c8b0 : decide (x10_1 < (t102.length : Int)) = false := decide_eq_false c8
        clear c8
        obtain rfl := Option.some.inj H
        go_wp2
        go_ret
        exact ⟨by first | rfl | (simp [errW_none, errW_some] <;> rfl) | (simp [*, errW_none, errW_some] <;> rfl), by repeat (first | (with_reducible first | exact HB.out | apply below_alloc | apply pw_below_drewN | apply below_drew1 | refine below_set ?_ GE101.out) | exact HB.out)⟩
end Go.Proofs.YtiaccdaeomaogaaDoor.F
namespace Go.Proofs.YtiaccdaeomaogaaDoor.F
open Go.RowKit Go.Proofs.YtiaccdaeomaogaaDoorW.PrintWords Go.Proofs.YtiaccdaeomaogaaDoorW.PrintLast Go.Proofs.YtiaccdaeomaogaaDoorW.PrintMore
attribute [local go_sem] max2_int min2_int max_two min_two max_three min_three max_four min_four   -- for this text's walks alone
set_option linter.unusedVariables false
set_option linter.unusedSimpArgs false
mutual
def rung_code.l0 : Nat → List ByteArray → List ByteArray → Int → List (S40) → Int → Int → Option (Int)
  | 0, _, _, _, _, _, _ => none
  | k + 1, x1, x2, x7, x17, x18, x19 => if x19 < x18 then (if 0 ≤ x19 then (if x19 < (x17.length : Int) then ((rung_named.f k ((rd_T40 x17 x19).f0)).bind fun bt103 => (if bt103.2.2.2 = true then (if bt103.1 = true then (if ((rd_T40 x17 x19).f0) = 2 then (rung_code.j1 k x1 x2 x7 bt103.1 bt103.2.1 bt103.2.2.1 x17 x18 x19 false ((rd_T40 x17 x19).f0) ((rd_T40 x17 x19).f1) ((rd_T40 x17 x19).f2.f0) ((rd_T40 x17 x19).f2.f1) ((rd_T40 x17 x19).f2.f2) ((rd_T40 x17 x19).f2.f3)) else ((rung_blank.f ((rd_T40 x17 x19).f2.f0) ((rd_T40 x17 x19).f2.f1) ((rd_T40 x17 x19).f2.f2) ((rd_T40 x17 x19).f2.f3)).bind fun t107 => (rung_code.j1 k x1 x2 x7 bt103.1 bt103.2.1 bt103.2.2.1 x17 x18 x19 (!t107) ((rd_T40 x17 x19).f0) ((rd_T40 x17 x19).f1) ((rd_T40 x17 x19).f2.f0) ((rd_T40 x17 x19).f2.f1) ((rd_T40 x17 x19).f2.f2) ((rd_T40 x17 x19).f2.f3)))) else (if ((rd_T40 x17 x19).f1).toList = ([] : List UInt8) then (if ((rd_T40 x17 x19).f0) = 2 then (rung_code.j1 k x1 x2 x7 bt103.1 bt103.2.1 bt103.2.2.1 x17 x18 x19 false ((rd_T40 x17 x19).f0) ((rd_T40 x17 x19).f1) ((rd_T40 x17 x19).f2.f0) ((rd_T40 x17 x19).f2.f1) ((rd_T40 x17 x19).f2.f2) ((rd_T40 x17 x19).f2.f3)) else ((rung_blank.f ((rd_T40 x17 x19).f2.f0) ((rd_T40 x17 x19).f2.f1) ((rd_T40 x17 x19).f2.f2) ((rd_T40 x17 x19).f2.f3)).bind fun t108 => (rung_code.j1 k x1 x2 x7 bt103.1 bt103.2.1 bt103.2.2.1 x17 x18 x19 (!t108) ((rd_T40 x17 x19).f0) ((rd_T40 x17 x19).f1) ((rd_T40 x17 x19).f2.f0) ((rd_T40 x17 x19).f2.f1) ((rd_T40 x17 x19).f2.f2) ((rd_T40 x17 x19).f2.f3)))) else (rung_code.j1 k x1 x2 x7 bt103.1 bt103.2.1 bt103.2.2.1 x17 x18 x19 (((rd_T40 x17 x19).f1).toList != ([] : List UInt8)) ((rd_T40 x17 x19).f0) ((rd_T40 x17 x19).f1) ((rd_T40 x17 x19).f2.f0) ((rd_T40 x17 x19).f2.f1) ((rd_T40 x17 x19).f2.f2) ((rd_T40 x17 x19).f2.f3)))) else (rung_code.j1 k x1 x2 x7 bt103.1 bt103.2.1 bt103.2.2.1 x17 x18 x19 (!bt103.2.2.2) ((rd_T40 x17 x19).f0) ((rd_T40 x17 x19).f1) ((rd_T40 x17 x19).f2.f0) ((rd_T40 x17 x19).f2.f1) ((rd_T40 x17 x19).f2.f2) ((rd_T40 x17 x19).f2.f3)))) else (none)) else (none)) else (if x7 = 1 then (some 0) else (some 1))
def rung_code.j1 : Nat → List ByteArray → List ByteArray → Int → Bool → Int → Int → List (S40) → Int → Int → Bool → Int → ByteArray → Int → Int → ByteArray → List (S34) → Option (Int)
  | 0, _, _, _, _, _, _, _, _, _, _, _, _, _, _, _, _ => none
  | k + 1, x1, x2, x7, x10, x11, x12, x17, x18, x19, x31, x103000, x103001, x103002, x103003, x103004, x103005 => if x31 = true then (some 1) else (if x10 = true then ((slices_Contains_string_string.f k x1 x103001).bind fun t109 => (rung_code.j2 k x1 x2 x7 x11 x12 x17 x18 x19 (!t109) x103000 x103001 x103002 x103003 x103004 x103005)) else (rung_code.j2 k x1 x2 x7 x11 x12 x17 x18 x19 false x103000 x103001 x103002 x103003 x103004 x103005))
def rung_code.j2 : Nat → List ByteArray → List ByteArray → Int → Int → Int → List (S40) → Int → Int → Bool → Int → ByteArray → Int → Int → ByteArray → List (S34) → Option (Int)
  | 0, _, _, _, _, _, _, _, _, _, _, _, _, _, _, _ => none
  | k + 1, x1, x2, x7, x11, x12, x17, x18, x19, x50, x103000, x103001, x103002, x103003, x103004, x103005 => if x50 = true then (rung_code.j3 k x1 x2 x7 x11 x12 x17 x18 x19 x50 x103000 x103001 x103002 x103003 x103004 x103005) else (if x103000 = 2 then ((rung_strange.f k x103002 x103003 x103004 x103005 x2).bind fun t110 => (rung_code.j3 k x1 x2 x7 x11 x12 x17 x18 x19 t110 x103000 x103001 x103002 x103003 x103004 x103005)) else (rung_code.j3 k x1 x2 x7 x11 x12 x17 x18 x19 false x103000 x103001 x103002 x103003 x103004 x103005))
def rung_code.j3 : Nat → List ByteArray → List ByteArray → Int → Int → Int → List (S40) → Int → Int → Bool → Int → ByteArray → Int → Int → ByteArray → List (S34) → Option (Int)
  | 0, _, _, _, _, _, _, _, _, _, _, _, _, _, _, _ => none
  | k + 1, x1, x2, x7, x11, x12, x17, x18, x19, x50, x103000, x103001, x103002, x103003, x103004, x103005 => if x50 = true then (some 21) else (if x103000 = 2 then ((expr_May.f k x103002 x103003 x103004 x103005).bind fun t111 => (rung_code.j4 k x1 x2 x7 x11 x12 x17 x18 x19 (!t111))) else (rung_code.j4 k x1 x2 x7 x11 x12 x17 x18 x19 false))
def rung_code.j4 : Nat → List ByteArray → List ByteArray → Int → Int → Int → List (S40) → Int → Int → Bool → Option (Int)
  | 0, _, _, _, _, _, _, _, _, _ => none
  | k + 1, x1, x2, x7, x11, x12, x17, x18, x19, x68 => if x68 = true then (some 1) else (if x7 < x11 then (some 1) else (if (wrap64 ((wrap64 (x7 - x11)) + x12)) > 8 then (some 1) else (rung_code.l0 k x1 x2 (wrap64 (x7 + (wrap64 (x12 - x11)))) x17 x18 (wrap64 (x19 + 1)))))
end
def rung_code.f (k : Nat) (l0 : List (S40)) (l1 : List ByteArray) (l2 : List ByteArray) : Option (Int) := if (l0.length : Int) > 12 then (some 2) else (rung_code.l0 k l1 l2 0 l0 (l0.length : Int) 0)
theorem rung_code.mono_l : ∀ k, (∀ y0 y1 y2 y3 y4 y5, LeO (rung_code.l0 k y0 y1 y2 y3 y4 y5) (rung_code.l0 (k + 1) y0 y1 y2 y3 y4 y5)) ∧ (∀ y0 y1 y2 y3 y4 y5 y6 y7 y8 y9 y10 y11 y12 y13 y14 y15, LeO (rung_code.j1 k y0 y1 y2 y3 y4 y5 y6 y7 y8 y9 y10 y11 y12 y13 y14 y15) (rung_code.j1 (k + 1) y0 y1 y2 y3 y4 y5 y6 y7 y8 y9 y10 y11 y12 y13 y14 y15)) ∧ (∀ y0 y1 y2 y3 y4 y5 y6 y7 y8 y9 y10 y11 y12 y13 y14, LeO (rung_code.j2 k y0 y1 y2 y3 y4 y5 y6 y7 y8 y9 y10 y11 y12 y13 y14) (rung_code.j2 (k + 1) y0 y1 y2 y3 y4 y5 y6 y7 y8 y9 y10 y11 y12 y13 y14)) ∧ (∀ y0 y1 y2 y3 y4 y5 y6 y7 y8 y9 y10 y11 y12 y13 y14, LeO (rung_code.j3 k y0 y1 y2 y3 y4 y5 y6 y7 y8 y9 y10 y11 y12 y13 y14) (rung_code.j3 (k + 1) y0 y1 y2 y3 y4 y5 y6 y7 y8 y9 y10 y11 y12 y13 y14)) ∧ (∀ y0 y1 y2 y3 y4 y5 y6 y7 y8, LeO (rung_code.j4 k y0 y1 y2 y3 y4 y5 y6 y7 y8) (rung_code.j4 (k + 1) y0 y1 y2 y3 y4 y5 y6 y7 y8))
  | 0 => ⟨fun _ _ _ _ _ _ r h => by simp [rung_code.l0] at h, fun _ _ _ _ _ _ _ _ _ _ _ _ _ _ _ _ r h => by simp [rung_code.j1] at h, fun _ _ _ _ _ _ _ _ _ _ _ _ _ _ _ r h => by simp [rung_code.j2] at h, fun _ _ _ _ _ _ _ _ _ _ _ _ _ _ _ r h => by simp [rung_code.j3] at h, fun _ _ _ _ _ _ _ _ _ r h => by simp [rung_code.j4] at h⟩
  | k + 1 => by
    obtain ⟨ih0, ih1, ih2, ih3, ih4⟩ := rung_code.mono_l k
    refine ⟨?_, ?_, ?_, ?_, ?_⟩
    · intro y0 y1 y2 y3 y4 y5
      unfold rung_code.l0
      repeat' first
      | (with_reducible exact ih0 _ _ _ _ _ _)
      | (with_reducible exact ih1 _ _ _ _ _ _ _ _ _ _ _ _ _ _ _ _)
      | (with_reducible exact ih2 _ _ _ _ _ _ _ _ _ _ _ _ _ _ _)
      | (with_reducible exact ih3 _ _ _ _ _ _ _ _ _ _ _ _ _ _ _)
      | (with_reducible exact ih4 _ _ _ _ _ _ _ _ _)
      | (with_reducible exact expr_May.mono _ _ _ _ _)
      | (with_reducible exact rung_named.mono _ _)
      | (with_reducible exact rung_strange.mono _ _ _ _ _ _)
      | (with_reducible exact slices_Contains_string_string.mono _ _ _)
      | (with_reducible exact LeO.refl _)
      | (with_reducible exact LeO.none _)
      | (with_reducible refine LeO.ite ?_ ?_)
      | (with_reducible refine LeO.bind ?_ (fun _ => ?_))
      | exact ih0 _ _ _ _ _ _
      | exact ih1 _ _ _ _ _ _ _ _ _ _ _ _ _ _ _ _
      | exact ih2 _ _ _ _ _ _ _ _ _ _ _ _ _ _ _
      | exact ih3 _ _ _ _ _ _ _ _ _ _ _ _ _ _ _
      | exact ih4 _ _ _ _ _ _ _ _ _
      | exact expr_May.mono _ _ _ _ _
      | exact rung_named.mono _ _
      | exact rung_strange.mono _ _ _ _ _ _
      | exact slices_Contains_string_string.mono _ _ _
      | exact LeO.none _
      | refine LeO.ite ?_ ?_
      | refine LeO.bind ?_ (fun _ => ?_)
    · intro y0 y1 y2 y3 y4 y5 y6 y7 y8 y9 y10 y11 y12 y13 y14 y15
      unfold rung_code.j1
      repeat' first
      | (with_reducible exact ih0 _ _ _ _ _ _)
      | (with_reducible exact ih1 _ _ _ _ _ _ _ _ _ _ _ _ _ _ _ _)
      | (with_reducible exact ih2 _ _ _ _ _ _ _ _ _ _ _ _ _ _ _)
      | (with_reducible exact ih3 _ _ _ _ _ _ _ _ _ _ _ _ _ _ _)
      | (with_reducible exact ih4 _ _ _ _ _ _ _ _ _)
      | (with_reducible exact expr_May.mono _ _ _ _ _)
      | (with_reducible exact rung_named.mono _ _)
      | (with_reducible exact rung_strange.mono _ _ _ _ _ _)
      | (with_reducible exact slices_Contains_string_string.mono _ _ _)
      | (with_reducible exact LeO.refl _)
      | (with_reducible exact LeO.none _)
      | (with_reducible refine LeO.ite ?_ ?_)
      | (with_reducible refine LeO.bind ?_ (fun _ => ?_))
      | exact ih0 _ _ _ _ _ _
      | exact ih1 _ _ _ _ _ _ _ _ _ _ _ _ _ _ _ _
      | exact ih2 _ _ _ _ _ _ _ _ _ _ _ _ _ _ _
      | exact ih3 _ _ _ _ _ _ _ _ _ _ _ _ _ _ _
      | exact ih4 _ _ _ _ _ _ _ _ _
      | exact expr_May.mono _ _ _ _ _
      | exact rung_named.mono _ _
      | exact rung_strange.mono _ _ _ _ _ _
      | exact slices_Contains_string_string.mono _ _ _
      | exact LeO.none _
      | refine LeO.ite ?_ ?_
      | refine LeO.bind ?_ (fun _ => ?_)
    · intro y0 y1 y2 y3 y4 y5 y6 y7 y8 y9 y10 y11 y12 y13 y14
      unfold rung_code.j2
      repeat' first
      | (with_reducible exact ih0 _ _ _ _ _ _)
      | (with_reducible exact ih1 _ _ _ _ _ _ _ _ _ _ _ _ _ _ _ _)
      | (with_reducible exact ih2 _ _ _ _ _ _ _ _ _ _ _ _ _ _ _)
      | (with_reducible exact ih3 _ _ _ _ _ _ _ _ _ _ _ _ _ _ _)
      | (with_reducible exact ih4 _ _ _ _ _ _ _ _ _)
      | (with_reducible exact expr_May.mono _ _ _ _ _)
      | (with_reducible exact rung_named.mono _ _)
      | (with_reducible exact rung_strange.mono _ _ _ _ _ _)
      | (with_reducible exact slices_Contains_string_string.mono _ _ _)
      | (with_reducible exact LeO.refl _)
      | (with_reducible exact LeO.none _)
      | (with_reducible refine LeO.ite ?_ ?_)
      | (with_reducible refine LeO.bind ?_ (fun _ => ?_))
      | exact ih0 _ _ _ _ _ _
      | exact ih1 _ _ _ _ _ _ _ _ _ _ _ _ _ _ _ _
      | exact ih2 _ _ _ _ _ _ _ _ _ _ _ _ _ _ _
      | exact ih3 _ _ _ _ _ _ _ _ _ _ _ _ _ _ _
      | exact ih4 _ _ _ _ _ _ _ _ _
      | exact expr_May.mono _ _ _ _ _
      | exact rung_named.mono _ _
      | exact rung_strange.mono _ _ _ _ _ _
      | exact slices_Contains_string_string.mono _ _ _
      | exact LeO.none _
      | refine LeO.ite ?_ ?_
      | refine LeO.bind ?_ (fun _ => ?_)
    · intro y0 y1 y2 y3 y4 y5 y6 y7 y8 y9 y10 y11 y12 y13 y14
      unfold rung_code.j3
      repeat' first
      | (with_reducible exact ih0 _ _ _ _ _ _)
      | (with_reducible exact ih1 _ _ _ _ _ _ _ _ _ _ _ _ _ _ _ _)
      | (with_reducible exact ih2 _ _ _ _ _ _ _ _ _ _ _ _ _ _ _)
      | (with_reducible exact ih3 _ _ _ _ _ _ _ _ _ _ _ _ _ _ _)
      | (with_reducible exact ih4 _ _ _ _ _ _ _ _ _)
      | (with_reducible exact expr_May.mono _ _ _ _ _)
      | (with_reducible exact rung_named.mono _ _)
      | (with_reducible exact rung_strange.mono _ _ _ _ _ _)
      | (with_reducible exact slices_Contains_string_string.mono _ _ _)
      | (with_reducible exact LeO.refl _)
      | (with_reducible exact LeO.none _)
      | (with_reducible refine LeO.ite ?_ ?_)
      | (with_reducible refine LeO.bind ?_ (fun _ => ?_))
      | exact ih0 _ _ _ _ _ _
      | exact ih1 _ _ _ _ _ _ _ _ _ _ _ _ _ _ _ _
      | exact ih2 _ _ _ _ _ _ _ _ _ _ _ _ _ _ _
      | exact ih3 _ _ _ _ _ _ _ _ _ _ _ _ _ _ _
      | exact ih4 _ _ _ _ _ _ _ _ _
      | exact expr_May.mono _ _ _ _ _
      | exact rung_named.mono _ _
      | exact rung_strange.mono _ _ _ _ _ _
      | exact slices_Contains_string_string.mono _ _ _
      | exact LeO.none _
      | refine LeO.ite ?_ ?_
      | refine LeO.bind ?_ (fun _ => ?_)
    · intro y0 y1 y2 y3 y4 y5 y6 y7 y8
      unfold rung_code.j4
      repeat' first
      | (with_reducible exact ih0 _ _ _ _ _ _)
      | (with_reducible exact ih1 _ _ _ _ _ _ _ _ _ _ _ _ _ _ _ _)
      | (with_reducible exact ih2 _ _ _ _ _ _ _ _ _ _ _ _ _ _ _)
      | (with_reducible exact ih3 _ _ _ _ _ _ _ _ _ _ _ _ _ _ _)
      | (with_reducible exact ih4 _ _ _ _ _ _ _ _ _)
      | (with_reducible exact expr_May.mono _ _ _ _ _)
      | (with_reducible exact rung_named.mono _ _)
      | (with_reducible exact rung_strange.mono _ _ _ _ _ _)
      | (with_reducible exact slices_Contains_string_string.mono _ _ _)
      | (with_reducible exact LeO.refl _)
      | (with_reducible exact LeO.none _)
      | (with_reducible refine LeO.ite ?_ ?_)
      | (with_reducible refine LeO.bind ?_ (fun _ => ?_))
      | exact ih0 _ _ _ _ _ _
      | exact ih1 _ _ _ _ _ _ _ _ _ _ _ _ _ _ _ _
      | exact ih2 _ _ _ _ _ _ _ _ _ _ _ _ _ _ _
      | exact ih3 _ _ _ _ _ _ _ _ _ _ _ _ _ _ _
      | exact ih4 _ _ _ _ _ _ _ _ _
      | exact expr_May.mono _ _ _ _ _
      | exact rung_named.mono _ _
      | exact rung_strange.mono _ _ _ _ _ _
      | exact slices_Contains_string_string.mono _ _ _
      | exact LeO.none _
      | refine LeO.ite ?_ ?_
      | refine LeO.bind ?_ (fun _ => ?_)
theorem rung_code.mono : ∀ a0 a1 a2 k, LeO (rung_code.f k a0 a1 a2) (rung_code.f (k + 1) a0 a1 a2) := by
  intro a0 a1 a2 k
  obtain ⟨ih0, ih1, ih2, ih3, ih4⟩ := rung_code.mono_l k
  unfold rung_code.f
  repeat' first
      | (with_reducible exact ih0 _ _ _ _ _ _)
      | (with_reducible exact ih1 _ _ _ _ _ _ _ _ _ _ _ _ _ _ _ _)
      | (with_reducible exact ih2 _ _ _ _ _ _ _ _ _ _ _ _ _ _ _)
      | (with_reducible exact ih3 _ _ _ _ _ _ _ _ _ _ _ _ _ _ _)
      | (with_reducible exact ih4 _ _ _ _ _ _ _ _ _)
      | (with_reducible exact expr_May.mono _ _ _ _ _)
      | (with_reducible exact rung_named.mono _ _)
      | (with_reducible exact rung_strange.mono _ _ _ _ _ _)
      | (with_reducible exact slices_Contains_string_string.mono _ _ _)
      | (with_reducible exact LeO.refl _)
      | (with_reducible exact LeO.none _)
      | (with_reducible refine LeO.ite ?_ ?_)
      | (with_reducible refine LeO.bind ?_ (fun _ => ?_))
      | exact ih0 _ _ _ _ _ _
      | exact ih1 _ _ _ _ _ _ _ _ _ _ _ _ _ _ _ _
      | exact ih2 _ _ _ _ _ _ _ _ _ _ _ _ _ _ _
      | exact ih3 _ _ _ _ _ _ _ _ _ _ _ _ _ _ _
      | exact ih4 _ _ _ _ _ _ _ _ _
      | exact expr_May.mono _ _ _ _ _
      | exact rung_named.mono _ _
      | exact rung_strange.mono _ _ _ _ _ _
      | exact slices_Contains_string_string.mono _ _ _
      | exact LeO.none _
      | refine LeO.ite ?_ ?_
      | refine LeO.bind ?_ (fun _ => ?_)
set_option maxHeartbeats 8000000 in
set_option maxRecDepth 100000 in
theorem rung_code.calls (k : Nat) (A0 : Option Addr) (c0 : Nat) (l0 : List (S40)) (A1 : Option Addr) (c1 : Nat) (l1 : List ByteArray) (A2 : Option Addr) (c2 : Nat) (l2 : List ByteArray) (r : Int) (w : World) (hr0 : Kd.C k40 w A0 l0.length l0) (hc0 : l0.length ≤ c0) (hr1 : Kd.C Kd.string w A1 l1.length l1) (hc1 : l1.length ≤ c1) (hr2 : Kd.C Kd.string w A2 l2.length l2) (hc2 : l2.length ≤ c2) (h : rung_code.f k l0 l1 l2 = some r) (hN : A2 ≠ none) (hT : UT w) :
  Calls Tryd.prog 92 #[.slice A0 l0.length c0, .slice A1 l1.length c1, .slice A2 l2.length c2] w fun e w' => e = .returned (.int .i64 r) ∧ Below w.heap.size w w' := by
 have HT0 := Aside0.mk hT
 clear hT
 have HNL := Aside0.mk hN
 clear hN
 have hu40 := Tryd.underlying40
 have hu34 := Tryd.underlying34
 have HR0 := Aside0.mk hr0
 have HC0 := Aside0.mk hc0
 clear hr0 hc0
 have HR1 := Aside0.mk hr1
 have HC1 := Aside0.mk hc1
 clear hr1 hc1
 have HR2 := Aside0.mk hr2
 have HC2 := Aside0.mk hc2
 clear hr2 hc2
 have HB := Aside0.mk (Below.refl w.heap.size w)
 have H : (if (l0.length : Int) > 12 then (some 2) else (rung_code.l0 k l1 l2 0 l0 (l0.length : Int) 0)) = some r := h
 clear h
 by_cases c4 : (l0.length : Int) > 12
 ·rw [if_pos c4] at H
  have c4b0 : decide (12 < (l0.length : Int)) = true := decide_eq_true c4
  have c4b1 : decide (12 < l0.length) = true := decide_eq_true (by omega)
  clear c4
  obtain rfl := Option.some.inj H
  go_enter Tryd.func92, Tryd.ntmps92
  go_wp2
  go_ret
  exact ⟨by first | rfl | (simp [errW_none, errW_some] <;> rfl) | (simp [*, errW_none, errW_some] <;> rfl), by repeat (first | (with_reducible first | exact HB.out | apply below_alloc | apply pw_below_drewN | apply below_drew1) | exact HB.out)⟩
 ·rw [if_neg c4] at H
  have c4b0 : decide (12 < (l0.length : Int)) = false := decide_eq_false c4
  have c4b1 : decide (12 < l0.length) = false := decide_eq_false (by omega)
  clear c4
  have H' := Aside0.mk H
  clear H
  go_enter Tryd.func92, Tryd.ntmps92
  go_wp2
  go_loopg [7, 19] k (fun kq v7 v19 w' => ∃ (x7_1 : Int) (x19_1 : Int), v7 = .int .i64 x7_1 ∧ v19 = .int .i64 x19_1 ∧ Aside0 (rung_code.l0 kq l1 l2 x7_1 l0 (l0.length : Int) x19_1 = some r) ∧ Aside0 (kq ≤ k) ∧ Aside0 (Below w.heap.size w w'))
  case atStart => exact ⟨(0), (0), (by first | rfl | (simp; done) | (simp [*]; done)), (by first | rfl | (simp; done) | (simp [*]; done)), H', ⟨Nat.le_refl _⟩, ⟨by repeat (first | (with_reducible first | exact HB.out | apply below_alloc | apply pw_below_drewN | apply below_drew1) | exact HB.out)⟩⟩
  case round =>
   clear H'
   obtain ⟨x7_1, x19_1, rfl, rfl, HA, HK1, HB⟩ := hrel
   cases gk with
   | zero => exact absurd HA.out (by simp [rung_code.l0])
   | succ k1 =>
    have H := HA.out
    clear HA
    simp only [rung_code.l0] at H
    by_cases c5 : x19_1 < (l0.length : Int)
    ·rw [if_pos c5] at H
     have c5b0 : decide (x19_1 < (l0.length : Int)) = true := decide_eq_true c5
     clear c5
     by_cases c6 : 0 ≤ x19_1
     ·rw [if_pos c6] at H
      have c6b0 : decide (0 ≤ x19_1) = true := decide_eq_true c6
      clear c6
      by_cases c7 : x19_1 < (l0.length : Int)
      ·rw [if_pos c7] at H
       have c7b0 : decide (x19_1 < (l0.length : Int)) = true := decide_eq_true c7
       clear c7
       replace H := Option.bind_eq_some_iff.mp H
       obtain ⟨⟨t103, t104, t105, t106⟩, A80, H⟩ := H
       replace H : (if t106 = true then (if t103 = true then (if ((rd_T40 l0 x19_1).f0) = 2 then (rung_code.j1 k1 l1 l2 x7_1 t103 t104 t105 l0 (l0.length : Int) x19_1 false ((rd_T40 l0 x19_1).f0) ((rd_T40 l0 x19_1).f1) ((rd_T40 l0 x19_1).f2.f0) ((rd_T40 l0 x19_1).f2.f1) ((rd_T40 l0 x19_1).f2.f2) ((rd_T40 l0 x19_1).f2.f3)) else ((rung_blank.f ((rd_T40 l0 x19_1).f2.f0) ((rd_T40 l0 x19_1).f2.f1) ((rd_T40 l0 x19_1).f2.f2) ((rd_T40 l0 x19_1).f2.f3)).bind fun t107 => (rung_code.j1 k1 l1 l2 x7_1 t103 t104 t105 l0 (l0.length : Int) x19_1 (!t107) ((rd_T40 l0 x19_1).f0) ((rd_T40 l0 x19_1).f1) ((rd_T40 l0 x19_1).f2.f0) ((rd_T40 l0 x19_1).f2.f1) ((rd_T40 l0 x19_1).f2.f2) ((rd_T40 l0 x19_1).f2.f3)))) else (if ((rd_T40 l0 x19_1).f1).toList = ([] : List UInt8) then (if ((rd_T40 l0 x19_1).f0) = 2 then (rung_code.j1 k1 l1 l2 x7_1 t103 t104 t105 l0 (l0.length : Int) x19_1 false ((rd_T40 l0 x19_1).f0) ((rd_T40 l0 x19_1).f1) ((rd_T40 l0 x19_1).f2.f0) ((rd_T40 l0 x19_1).f2.f1) ((rd_T40 l0 x19_1).f2.f2) ((rd_T40 l0 x19_1).f2.f3)) else ((rung_blank.f ((rd_T40 l0 x19_1).f2.f0) ((rd_T40 l0 x19_1).f2.f1) ((rd_T40 l0 x19_1).f2.f2) ((rd_T40 l0 x19_1).f2.f3)).bind fun t108 => (rung_code.j1 k1 l1 l2 x7_1 t103 t104 t105 l0 (l0.length : Int) x19_1 (!t108) ((rd_T40 l0 x19_1).f0) ((rd_T40 l0 x19_1).f1) ((rd_T40 l0 x19_1).f2.f0) ((rd_T40 l0 x19_1).f2.f1) ((rd_T40 l0 x19_1).f2.f2) ((rd_T40 l0 x19_1).f2.f3)))) else (rung_code.j1 k1 l1 l2 x7_1 t103 t104 t105 l0 (l0.length : Int) x19_1 (((rd_T40 l0 x19_1).f1).toList != ([] : List UInt8)) ((rd_T40 l0 x19_1).f0) ((rd_T40 l0 x19_1).f1) ((rd_T40 l0 x19_1).f2.f0) ((rd_T40 l0 x19_1).f2.f1) ((rd_T40 l0 x19_1).f2.f2) ((rd_T40 l0 x19_1).f2.f3)))) else (rung_code.j1 k1 l1 l2 x7_1 t103 t104 t105 l0 (l0.length : Int) x19_1 (!t106) ((rd_T40 l0 x19_1).f0) ((rd_T40 l0 x19_1).f1) ((rd_T40 l0 x19_1).f2.f0) ((rd_T40 l0 x19_1).f2.f1) ((rd_T40 l0 x19_1).f2.f2) ((rd_T40 l0 x19_1).f2.f3))) = some r := H
       have A8 := Aside0.mk A80
       clear A80
       have HC9 := Aside0.mk H
       clear H
       have p101 : 0 ≤ (x19_1 : Int) := of_decide_eq_true (by first | (with_reducible assumption) | assumption)
       have q101 : x19_1 < (l0.length : Int) := of_decide_eq_true (by first | (with_reducible assumption) | assumption)
       obtain ⟨ad101, A101_5, c101_5, e101, hx101_0, hx101_1, hx101_2, hx101_3, hx101_4, hx101_5, hl101_5, hi101_5⟩ := at_T40 HR0.out x19_1 p101 q101
       cases e101
       replace hx101_0 := (HB.out.cell (World.block_lt_of_cell? w _ hx101_0)).trans hx101_0
       replace hx101_1 := (HB.out.cell (World.block_lt_of_cell? w _ hx101_1)).trans hx101_1
       replace hx101_2 := (HB.out.cell (World.block_lt_of_cell? w _ hx101_2)).trans hx101_2
       replace hx101_3 := (HB.out.cell (World.block_lt_of_cell? w _ hx101_3)).trans hx101_3
       replace hx101_4 := (HB.out.cell (World.block_lt_of_cell? w _ hx101_4)).trans hx101_4
       replace hx101_5 := (HB.out.cell (World.block_lt_of_cell? w _ hx101_5)).trans hx101_5
       have HR101_5 := Aside0.mk hi101_5
       have HC101_5 := Aside0.mk hl101_5
       clear hi101_5 hl101_5
       replace p101 := eq_true p101
       replace q101 := eq_true q101
       go_upto_if 31 with (first | ((with_reducible refine gate_dst (N := 9) rfl ?_); refine box_event ?hg (N := 9) ?hd (cs := #[.int .i64 0, .string (⟨#[]⟩ : ByteArray), .int .i64 0, .int .i64 0, .string (⟨#[]⟩ : ByteArray), .slice none 0 0]) (t := 40) ?hr ?_; (case hd => rfl); (case hg => rfl); (case hr => first | (go_simp; done) | (go_simp; rfl)); intro gb102 hg w10 hbox hb; have n0_ := Aside0.mk (below_step (by repeat (first | (with_reducible first | exact HB.out | apply below_alloc | apply pw_below_drewN | apply below_drew1) | exact HB.out)) hb); have n1_ := Aside0.mk (hbox); have n2_ := Aside0.mk ((by rw [hg]; exact (below_size (by repeat (first | (with_reducible first | exact HB.out | apply below_alloc | apply pw_below_drewN | apply below_drew1) | exact HB.out))) : w.heap.size ≤ gb102)); have n3_ := Aside0.mk ((by rw [hg]; exact (below_size (by repeat (first | (with_reducible first | exact HB.out | apply below_alloc | apply pw_below_drewN | apply below_drew1) | exact HB.out))) : w.heap.size ≤ gb102)); clear HB; have HB := n0_; have BK102 := n1_; have GW102 := n2_; have GE102 := n3_; clear n0_ n1_ n2_ n3_; clear hb hbox hg; have hcz11_0 : w10.cell? ⟨gb102, 0, none⟩ = some (.int .i64 0) := (blk_cell BK102.out 0).trans rfl; have hcz11_1 : w10.cell? ⟨gb102, 1, none⟩ = some (.string (⟨#[]⟩ : ByteArray)) := (blk_cell BK102.out 1).trans rfl; have hcz11_2 : w10.cell? ⟨gb102, 2, none⟩ = some (.int .i64 0) := (blk_cell BK102.out 2).trans rfl; have hcz11_3 : w10.cell? ⟨gb102, 3, none⟩ = some (.int .i64 0) := (blk_cell BK102.out 3).trans rfl; have hcz11_4 : w10.cell? ⟨gb102, 4, none⟩ = some (.string (⟨#[]⟩ : ByteArray)) := (blk_cell BK102.out 4).trans rfl; have hcz11_5 : w10.cell? ⟨gb102, 5, none⟩ = some (.slice none 0 0) := (blk_cell BK102.out 5).trans rfl; have hfz11_0 := blk_frozen BK102.out 0; have hfz11_1 := blk_frozen BK102.out 1; have hfz11_2 := blk_frozen BK102.out 2; have hfz11_3 := blk_frozen BK102.out 3; have hfz11_4 := blk_frozen BK102.out 4; have hfz11_5 := blk_frozen BK102.out 5) | ((with_reducible refine gate_callee (f := 121) rfl ?_); refine goesL_ (some 26) rfl rfl Tryd.func121 (by kernel_rfl) rfl #[.int .i64 ((rd_T40 l0 x19_1).f0)] rfl (by (try simp only [List.map_toArray, List.map_cons, List.map_nil]); first | done | rfl | (simp only [List.length_drop, List.length_take]; rfl)) ?_; (with_reducible refine (rung_named.calls k1 ((rd_T40 l0 x19_1).f0) t103 t104 t105 t106 _ A8.out).mono ?_); rintro e w' ⟨rfl, ⟨nd, rfl⟩⟩; refine ⟨_, rfl, ?_⟩))
       (try simp only [Act.put, List.setIfInBounds_toArray, List.set_cons_zero, List.set_cons_succ])
       go_cut [31] (fun v31 wc => ∃ (kq : Nat) (x31_8 : Bool), v31 = .bool x31_8 ∧ Aside0 (rung_code.j1 kq l1 l2 x7_1 t103 t104 t105 l0 (l0.length : Int) x19_1 x31_8 ((rd_T40 l0 x19_1).f0) ((rd_T40 l0 x19_1).f1) ((rd_T40 l0 x19_1).f2.f0) ((rd_T40 l0 x19_1).f2.f1) ((rd_T40 l0 x19_1).f2.f2) ((rd_T40 l0 x19_1).f2.f3) = some r) ∧ Aside0 (kq ≤ k1) ∧ Aside0 (wc.heap[gb102]? = some (.cells #[.int .i64 ((rd_T40 l0 x19_1).f0), .string ((rd_T40 l0 x19_1).f1), .int .i64 ((rd_T40 l0 x19_1).f2.f0), .int .i64 ((rd_T40 l0 x19_1).f2.f1), .string ((rd_T40 l0 x19_1).f2.f2), (.slice A101_5 ((rd_T40 l0 x19_1).f2.f3).length c101_5)] 40 (0, 0))) ∧ Aside0 (Below w.heap.size w wc))
       case first =>
        have H := HC9.out
        clear HC9
        by_cases c12 : t106 = true
        ·subst c12
         have H1 : (if t103 = true then (if ((rd_T40 l0 x19_1).f0) = 2 then (rung_code.j1 k1 l1 l2 x7_1 t103 t104 t105 l0 (l0.length : Int) x19_1 false ((rd_T40 l0 x19_1).f0) ((rd_T40 l0 x19_1).f1) ((rd_T40 l0 x19_1).f2.f0) ((rd_T40 l0 x19_1).f2.f1) ((rd_T40 l0 x19_1).f2.f2) ((rd_T40 l0 x19_1).f2.f3)) else ((rung_blank.f ((rd_T40 l0 x19_1).f2.f0) ((rd_T40 l0 x19_1).f2.f1) ((rd_T40 l0 x19_1).f2.f2) ((rd_T40 l0 x19_1).f2.f3)).bind fun t107 => (rung_code.j1 k1 l1 l2 x7_1 t103 t104 t105 l0 (l0.length : Int) x19_1 (!t107) ((rd_T40 l0 x19_1).f0) ((rd_T40 l0 x19_1).f1) ((rd_T40 l0 x19_1).f2.f0) ((rd_T40 l0 x19_1).f2.f1) ((rd_T40 l0 x19_1).f2.f2) ((rd_T40 l0 x19_1).f2.f3)))) else (if ((rd_T40 l0 x19_1).f1).toList = ([] : List UInt8) then (if ((rd_T40 l0 x19_1).f0) = 2 then (rung_code.j1 k1 l1 l2 x7_1 t103 t104 t105 l0 (l0.length : Int) x19_1 false ((rd_T40 l0 x19_1).f0) ((rd_T40 l0 x19_1).f1) ((rd_T40 l0 x19_1).f2.f0) ((rd_T40 l0 x19_1).f2.f1) ((rd_T40 l0 x19_1).f2.f2) ((rd_T40 l0 x19_1).f2.f3)) else ((rung_blank.f ((rd_T40 l0 x19_1).f2.f0) ((rd_T40 l0 x19_1).f2.f1) ((rd_T40 l0 x19_1).f2.f2) ((rd_T40 l0 x19_1).f2.f3)).bind fun t108 => (rung_code.j1 k1 l1 l2 x7_1 t103 t104 t105 l0 (l0.length : Int) x19_1 (!t108) ((rd_T40 l0 x19_1).f0) ((rd_T40 l0 x19_1).f1) ((rd_T40 l0 x19_1).f2.f0) ((rd_T40 l0 x19_1).f2.f1) ((rd_T40 l0 x19_1).f2.f2) ((rd_T40 l0 x19_1).f2.f3)))) else (rung_code.j1 k1 l1 l2 x7_1 t103 t104 t105 l0 (l0.length : Int) x19_1 (((rd_T40 l0 x19_1).f1).toList != ([] : List UInt8)) ((rd_T40 l0 x19_1).f0) ((rd_T40 l0 x19_1).f1) ((rd_T40 l0 x19_1).f2.f0) ((rd_T40 l0 x19_1).f2.f1) ((rd_T40 l0 x19_1).f2.f2) ((rd_T40 l0 x19_1).f2.f3)))) = some r := by rw [if_pos rfl] at H; exact H
         clear H
         have H := H1
         clear H1
         by_cases c13 : t103 = true
         ·subst c13
          have H1 : (if ((rd_T40 l0 x19_1).f0) = 2 then (rung_code.j1 k1 l1 l2 x7_1 true t104 t105 l0 (l0.length : Int) x19_1 false ((rd_T40 l0 x19_1).f0) ((rd_T40 l0 x19_1).f1) ((rd_T40 l0 x19_1).f2.f0) ((rd_T40 l0 x19_1).f2.f1) ((rd_T40 l0 x19_1).f2.f2) ((rd_T40 l0 x19_1).f2.f3)) else ((rung_blank.f ((rd_T40 l0 x19_1).f2.f0) ((rd_T40 l0 x19_1).f2.f1) ((rd_T40 l0 x19_1).f2.f2) ((rd_T40 l0 x19_1).f2.f3)).bind fun t107 => (rung_code.j1 k1 l1 l2 x7_1 true t104 t105 l0 (l0.length : Int) x19_1 (!t107) ((rd_T40 l0 x19_1).f0) ((rd_T40 l0 x19_1).f1) ((rd_T40 l0 x19_1).f2.f0) ((rd_T40 l0 x19_1).f2.f1) ((rd_T40 l0 x19_1).f2.f2) ((rd_T40 l0 x19_1).f2.f3)))) = some r := by rw [if_pos rfl] at H; exact H
          clear H
          have H := H1
          clear H1
          by_cases c14 : ((rd_T40 l0 x19_1).f0) = 2
          ·rw [if_pos c14] at H
           have c14b0 : (((rd_T40 l0 x19_1).f0) == 2) = true := beq_iff_eq.mpr c14
           have c14b1 : (((rd_T40 l0 x19_1).f0) != 2) = false := bne_eq_false_iff_eq.mpr c14
           clear c14
           (first | rw [c14b0] | (simp only [i64_w, i32_w]; rw [c14b0]) | skip)
           have H' := Aside0.mk H
           clear H
           have hcz15_0 : w10.cell? ⟨gb102, 0, none⟩ = some (.int .i64 0) := (blk_cell BK102.out 0).trans rfl
           have hcz15_1 : w10.cell? ⟨gb102, 1, none⟩ = some (.string (⟨#[]⟩ : ByteArray)) := (blk_cell BK102.out 1).trans rfl
           have hcz15_2 : w10.cell? ⟨gb102, 2, none⟩ = some (.int .i64 0) := (blk_cell BK102.out 2).trans rfl
           have hcz15_3 : w10.cell? ⟨gb102, 3, none⟩ = some (.int .i64 0) := (blk_cell BK102.out 3).trans rfl
           have hcz15_4 : w10.cell? ⟨gb102, 4, none⟩ = some (.string (⟨#[]⟩ : ByteArray)) := (blk_cell BK102.out 4).trans rfl
           have hcz15_5 : w10.cell? ⟨gb102, 5, none⟩ = some (.slice none 0 0) := (blk_cell BK102.out 5).trans rfl
           have hfz15_0 := blk_frozen BK102.out 0
           have hfz15_1 := blk_frozen BK102.out 1
           have hfz15_2 := blk_frozen BK102.out 2
           have hfz15_3 := blk_frozen BK102.out 3
           have hfz15_4 := blk_frozen BK102.out 4
           have hfz15_5 := blk_frozen BK102.out 5
           go_wp2
           go_meet
           case rel => exact ⟨_, (false), (by first | rfl | (simp; done) | (simp [*]; done)), H', ⟨by have := HK1.out; first | omega | exact Nat.le_refl _⟩, ⟨by (with_reducible repeat (first | refine blk_drewN ?_ _ | refine blk_drew ?_ | refine blk_alloc ?_ _)); refine blk_put (cs := #[.int .i64 ((rd_T40 l0 x19_1).f0), .string ((rd_T40 l0 x19_1).f1), .int .i64 ((rd_T40 l0 x19_1).f2.f0), .int .i64 ((rd_T40 l0 x19_1).f2.f1), .string ((rd_T40 l0 x19_1).f2.f2), .slice none 0 0]) ?_ 5 _ rfl; (with_reducible repeat (first | refine blk_drewN ?_ _ | refine blk_drew ?_ | refine blk_alloc ?_ _)); refine blk_put (cs := #[.int .i64 ((rd_T40 l0 x19_1).f0), .string ((rd_T40 l0 x19_1).f1), .int .i64 ((rd_T40 l0 x19_1).f2.f0), .int .i64 ((rd_T40 l0 x19_1).f2.f1), .string (⟨#[]⟩ : ByteArray), .slice none 0 0]) ?_ 4 _ rfl; (with_reducible repeat (first | refine blk_drewN ?_ _ | refine blk_drew ?_ | refine blk_alloc ?_ _)); refine blk_put (cs := #[.int .i64 ((rd_T40 l0 x19_1).f0), .string ((rd_T40 l0 x19_1).f1), .int .i64 ((rd_T40 l0 x19_1).f2.f0), .int .i64 0, .string (⟨#[]⟩ : ByteArray), .slice none 0 0]) ?_ 3 _ rfl; (with_reducible repeat (first | refine blk_drewN ?_ _ | refine blk_drew ?_ | refine blk_alloc ?_ _)); refine blk_put (cs := #[.int .i64 ((rd_T40 l0 x19_1).f0), .string ((rd_T40 l0 x19_1).f1), .int .i64 0, .int .i64 0, .string (⟨#[]⟩ : ByteArray), .slice none 0 0]) ?_ 2 _ rfl; (with_reducible repeat (first | refine blk_drewN ?_ _ | refine blk_drew ?_ | refine blk_alloc ?_ _)); refine blk_put (cs := #[.int .i64 ((rd_T40 l0 x19_1).f0), .string (⟨#[]⟩ : ByteArray), .int .i64 0, .int .i64 0, .string (⟨#[]⟩ : ByteArray), .slice none 0 0]) ?_ 1 _ rfl; (with_reducible repeat (first | refine blk_drewN ?_ _ | refine blk_drew ?_ | refine blk_alloc ?_ _)); refine blk_put (cs := #[.int .i64 0, .string (⟨#[]⟩ : ByteArray), .int .i64 0, .int .i64 0, .string (⟨#[]⟩ : ByteArray), .slice none 0 0]) ?_ 0 _ rfl; (with_reducible repeat (first | refine blk_drewN ?_ _ | refine blk_drew ?_ | refine blk_alloc ?_ _)); exact BK102.out⟩, ⟨by repeat (first | (with_reducible first | exact HB.out | apply below_alloc | apply pw_below_drewN | apply below_drew1 | refine below_set ?_ GE102.out) | exact HB.out)⟩⟩
          ·rw [if_neg c14] at H
           have c14b0 : (((rd_T40 l0 x19_1).f0) == 2) = false := beq_eq_false_iff_ne.mpr c14
           have c14b1 : (((rd_T40 l0 x19_1).f0) != 2) = true := bne_iff_ne.mpr c14
           (first | rw [c14b0] | (simp only [i64_w, i32_w]; rw [c14b0]) | skip)
           replace H := Option.bind_eq_some_iff.mp H
           obtain ⟨t107, A160, H⟩ := H
           replace H : (rung_code.j1 k1 l1 l2 x7_1 true t104 t105 l0 (l0.length : Int) x19_1 (!t107) ((rd_T40 l0 x19_1).f0) ((rd_T40 l0 x19_1).f1) ((rd_T40 l0 x19_1).f2.f0) ((rd_T40 l0 x19_1).f2.f1) ((rd_T40 l0 x19_1).f2.f2) ((rd_T40 l0 x19_1).f2.f3)) = some r := H
           have A16 := Aside0.mk A160
           clear A160
           have H' := Aside0.mk H
           clear H
           have hcz17_0 : w10.cell? ⟨gb102, 0, none⟩ = some (.int .i64 0) := (blk_cell BK102.out 0).trans rfl
           have hcz17_1 : w10.cell? ⟨gb102, 1, none⟩ = some (.string (⟨#[]⟩ : ByteArray)) := (blk_cell BK102.out 1).trans rfl
           have hcz17_2 : w10.cell? ⟨gb102, 2, none⟩ = some (.int .i64 0) := (blk_cell BK102.out 2).trans rfl
           have hcz17_3 : w10.cell? ⟨gb102, 3, none⟩ = some (.int .i64 0) := (blk_cell BK102.out 3).trans rfl
           have hcz17_4 : w10.cell? ⟨gb102, 4, none⟩ = some (.string (⟨#[]⟩ : ByteArray)) := (blk_cell BK102.out 4).trans rfl
           have hcz17_5 : w10.cell? ⟨gb102, 5, none⟩ = some (.slice none 0 0) := (blk_cell BK102.out 5).trans rfl
           have hfz17_0 := blk_frozen BK102.out 0
           have hfz17_1 := blk_frozen BK102.out 1
           have hfz17_2 := blk_frozen BK102.out 2
           have hfz17_3 := blk_frozen BK102.out 3
           have hfz17_4 := blk_frozen BK102.out 4
           have hfz17_5 := blk_frozen BK102.out 5
           go_wp2_with (first | (go_at_call 122; (with_reducible refine (rung_blank.calls ((rd_T40 l0 x19_1).f2.f0) ((rd_T40 l0 x19_1).f2.f1) ((rd_T40 l0 x19_1).f2.f2) _ _ ((rd_T40 l0 x19_1).f2.f3) t107 _ ?side1 ?side2 A16.out).mono ?_); (case side1 => exact Kd.C_below HR101_5.out (by repeat (first | (with_reducible first | exact HB.out | apply below_alloc | apply pw_below_drewN | apply below_drew1 | refine below_set ?_ GE102.out) | exact HB.out))); (case side2 => exact HC101_5.out); rintro e w18 ⟨rfl, hb⟩; have n0_ := Aside0.mk (blk_below (g := gb102) (o := .cells #[.int .i64 ((rd_T40 l0 x19_1).f0), .string ((rd_T40 l0 x19_1).f1), .int .i64 ((rd_T40 l0 x19_1).f2.f0), .int .i64 ((rd_T40 l0 x19_1).f2.f1), .string ((rd_T40 l0 x19_1).f2.f2), .slice A101_5 ((rd_T40 l0 x19_1).f2.f3).length c101_5] 40 (0, 0)) (by (with_reducible repeat (first | refine blk_drewN ?_ _ | refine blk_drew ?_ | refine blk_alloc ?_ _)); refine blk_put (cs := #[.int .i64 ((rd_T40 l0 x19_1).f0), .string ((rd_T40 l0 x19_1).f1), .int .i64 ((rd_T40 l0 x19_1).f2.f0), .int .i64 ((rd_T40 l0 x19_1).f2.f1), .string ((rd_T40 l0 x19_1).f2.f2), .slice none 0 0]) ?_ 5 _ rfl; (with_reducible repeat (first | refine blk_drewN ?_ _ | refine blk_drew ?_ | refine blk_alloc ?_ _)); refine blk_put (cs := #[.int .i64 ((rd_T40 l0 x19_1).f0), .string ((rd_T40 l0 x19_1).f1), .int .i64 ((rd_T40 l0 x19_1).f2.f0), .int .i64 ((rd_T40 l0 x19_1).f2.f1), .string (⟨#[]⟩ : ByteArray), .slice none 0 0]) ?_ 4 _ rfl; (with_reducible repeat (first | refine blk_drewN ?_ _ | refine blk_drew ?_ | refine blk_alloc ?_ _)); refine blk_put (cs := #[.int .i64 ((rd_T40 l0 x19_1).f0), .string ((rd_T40 l0 x19_1).f1), .int .i64 ((rd_T40 l0 x19_1).f2.f0), .int .i64 0, .string (⟨#[]⟩ : ByteArray), .slice none 0 0]) ?_ 3 _ rfl; (with_reducible repeat (first | refine blk_drewN ?_ _ | refine blk_drew ?_ | refine blk_alloc ?_ _)); refine blk_put (cs := #[.int .i64 ((rd_T40 l0 x19_1).f0), .string ((rd_T40 l0 x19_1).f1), .int .i64 0, .int .i64 0, .string (⟨#[]⟩ : ByteArray), .slice none 0 0]) ?_ 2 _ rfl; (with_reducible repeat (first | refine blk_drewN ?_ _ | refine blk_drew ?_ | refine blk_alloc ?_ _)); refine blk_put (cs := #[.int .i64 ((rd_T40 l0 x19_1).f0), .string (⟨#[]⟩ : ByteArray), .int .i64 0, .int .i64 0, .string (⟨#[]⟩ : ByteArray), .slice none 0 0]) ?_ 1 _ rfl; (with_reducible repeat (first | refine blk_drewN ?_ _ | refine blk_drew ?_ | refine blk_alloc ?_ _)); refine blk_put (cs := #[.int .i64 0, .string (⟨#[]⟩ : ByteArray), .int .i64 0, .int .i64 0, .string (⟨#[]⟩ : ByteArray), .slice none 0 0]) ?_ 0 _ rfl; (with_reducible repeat (first | refine blk_drewN ?_ _ | refine blk_drew ?_ | refine blk_alloc ?_ _)); exact BK102.out) hb); have n1_ := Aside0.mk (below_step (by repeat (first | (with_reducible first | exact HB.out | apply below_alloc | apply pw_below_drewN | apply below_drew1 | refine below_set ?_ GE102.out) | exact HB.out)) hb); clear BK102; clear HB; have BK102 := n0_; have HB := n1_; clear n0_ n1_; (try clear hb); (try clear hb2); (try clear hk); (try clear hi)))
           go_meet
           case rel => exact ⟨_, (!t107), (by first | rfl | (simp; done) | (simp [*]; done)), H', ⟨by have := HK1.out; first | omega | exact Nat.le_refl _⟩, ⟨by (with_reducible repeat (first | refine blk_drewN ?_ _ | refine blk_drew ?_ | refine blk_alloc ?_ _)); exact BK102.out⟩, ⟨by repeat (first | (with_reducible first | exact HB.out | apply below_alloc | apply pw_below_drewN | apply below_drew1 | refine below_set ?_ GE102.out) | exact HB.out)⟩⟩
         ·replace c13 := Bool.eq_false_iff.mpr c13
          subst c13
          have H1 : (if ((rd_T40 l0 x19_1).f1).toList = ([] : List UInt8) then (if ((rd_T40 l0 x19_1).f0) = 2 then (rung_code.j1 k1 l1 l2 x7_1 false t104 t105 l0 (l0.length : Int) x19_1 false ((rd_T40 l0 x19_1).f0) ((rd_T40 l0 x19_1).f1) ((rd_T40 l0 x19_1).f2.f0) ((rd_T40 l0 x19_1).f2.f1) ((rd_T40 l0 x19_1).f2.f2) ((rd_T40 l0 x19_1).f2.f3)) else ((rung_blank.f ((rd_T40 l0 x19_1).f2.f0) ((rd_T40 l0 x19_1).f2.f1) ((rd_T40 l0 x19_1).f2.f2) ((rd_T40 l0 x19_1).f2.f3)).bind fun t108 => (rung_code.j1 k1 l1 l2 x7_1 false t104 t105 l0 (l0.length : Int) x19_1 (!t108) ((rd_T40 l0 x19_1).f0) ((rd_T40 l0 x19_1).f1) ((rd_T40 l0 x19_1).f2.f0) ((rd_T40 l0 x19_1).f2.f1) ((rd_T40 l0 x19_1).f2.f2) ((rd_T40 l0 x19_1).f2.f3)))) else (rung_code.j1 k1 l1 l2 x7_1 false t104 t105 l0 (l0.length : Int) x19_1 (((rd_T40 l0 x19_1).f1).toList != ([] : List UInt8)) ((rd_T40 l0 x19_1).f0) ((rd_T40 l0 x19_1).f1) ((rd_T40 l0 x19_1).f2.f0) ((rd_T40 l0 x19_1).f2.f1) ((rd_T40 l0 x19_1).f2.f2) ((rd_T40 l0 x19_1).f2.f3))) = some r := by rw [if_neg (show ¬ (false = true) by decide)] at H; exact H
          clear H
          have H := H1
          clear H1
          by_cases c19 : ((rd_T40 l0 x19_1).f1).toList = ([] : List UInt8)
          ·rw [if_pos c19] at H
           have c19b0 : (((rd_T40 l0 x19_1).f1).toList == ([] : List UInt8)) = true := beq_iff_eq.mpr c19
           have c19b1 : (((rd_T40 l0 x19_1).f1).toList != ([] : List UInt8)) = false := bne_eq_false_iff_eq.mpr c19
           clear c19
           by_cases c20 : ((rd_T40 l0 x19_1).f0) = 2
           ·rw [if_pos c20] at H
            have c20b0 : (((rd_T40 l0 x19_1).f0) == 2) = true := beq_iff_eq.mpr c20
            have c20b1 : (((rd_T40 l0 x19_1).f0) != 2) = false := bne_eq_false_iff_eq.mpr c20
            clear c20
            have H' := Aside0.mk H
            clear H
            have hcz21_0 : w10.cell? ⟨gb102, 0, none⟩ = some (.int .i64 0) := (blk_cell BK102.out 0).trans rfl
            have hcz21_1 : w10.cell? ⟨gb102, 1, none⟩ = some (.string (⟨#[]⟩ : ByteArray)) := (blk_cell BK102.out 1).trans rfl
            have hcz21_2 : w10.cell? ⟨gb102, 2, none⟩ = some (.int .i64 0) := (blk_cell BK102.out 2).trans rfl
            have hcz21_3 : w10.cell? ⟨gb102, 3, none⟩ = some (.int .i64 0) := (blk_cell BK102.out 3).trans rfl
            have hcz21_4 : w10.cell? ⟨gb102, 4, none⟩ = some (.string (⟨#[]⟩ : ByteArray)) := (blk_cell BK102.out 4).trans rfl
            have hcz21_5 : w10.cell? ⟨gb102, 5, none⟩ = some (.slice none 0 0) := (blk_cell BK102.out 5).trans rfl
            have hfz21_0 := blk_frozen BK102.out 0
            have hfz21_1 := blk_frozen BK102.out 1
            have hfz21_2 := blk_frozen BK102.out 2
            have hfz21_3 := blk_frozen BK102.out 3
            have hfz21_4 := blk_frozen BK102.out 4
            have hfz21_5 := blk_frozen BK102.out 5
            go_wp2
            go_meet
            case rel => exact ⟨_, (false), (by first | rfl | (simp; done) | (simp [*]; done)), H', ⟨by have := HK1.out; first | omega | exact Nat.le_refl _⟩, ⟨by (with_reducible repeat (first | refine blk_drewN ?_ _ | refine blk_drew ?_ | refine blk_alloc ?_ _)); refine blk_put (cs := #[.int .i64 ((rd_T40 l0 x19_1).f0), .string ((rd_T40 l0 x19_1).f1), .int .i64 ((rd_T40 l0 x19_1).f2.f0), .int .i64 ((rd_T40 l0 x19_1).f2.f1), .string ((rd_T40 l0 x19_1).f2.f2), .slice none 0 0]) ?_ 5 _ rfl; (with_reducible repeat (first | refine blk_drewN ?_ _ | refine blk_drew ?_ | refine blk_alloc ?_ _)); refine blk_put (cs := #[.int .i64 ((rd_T40 l0 x19_1).f0), .string ((rd_T40 l0 x19_1).f1), .int .i64 ((rd_T40 l0 x19_1).f2.f0), .int .i64 ((rd_T40 l0 x19_1).f2.f1), .string (⟨#[]⟩ : ByteArray), .slice none 0 0]) ?_ 4 _ rfl; (with_reducible repeat (first | refine blk_drewN ?_ _ | refine blk_drew ?_ | refine blk_alloc ?_ _)); refine blk_put (cs := #[.int .i64 ((rd_T40 l0 x19_1).f0), .string ((rd_T40 l0 x19_1).f1), .int .i64 ((rd_T40 l0 x19_1).f2.f0), .int .i64 0, .string (⟨#[]⟩ : ByteArray), .slice none 0 0]) ?_ 3 _ rfl; (with_reducible repeat (first | refine blk_drewN ?_ _ | refine blk_drew ?_ | refine blk_alloc ?_ _)); refine blk_put (cs := #[.int .i64 ((rd_T40 l0 x19_1).f0), .string ((rd_T40 l0 x19_1).f1), .int .i64 0, .int .i64 0, .string (⟨#[]⟩ : ByteArray), .slice none 0 0]) ?_ 2 _ rfl; (with_reducible repeat (first | refine blk_drewN ?_ _ | refine blk_drew ?_ | refine blk_alloc ?_ _)); refine blk_put (cs := #[.int .i64 ((rd_T40 l0 x19_1).f0), .string (⟨#[]⟩ : ByteArray), .int .i64 0, .int .i64 0, .string (⟨#[]⟩ : ByteArray), .slice none 0 0]) ?_ 1 _ rfl; (with_reducible repeat (first | refine blk_drewN ?_ _ | refine blk_drew ?_ | refine blk_alloc ?_ _)); refine blk_put (cs := #[.int .i64 0, .string (⟨#[]⟩ : ByteArray), .int .i64 0, .int .i64 0, .string (⟨#[]⟩ : ByteArray), .slice none 0 0]) ?_ 0 _ rfl; (with_reducible repeat (first | refine blk_drewN ?_ _ | refine blk_drew ?_ | refine blk_alloc ?_ _)); exact BK102.out⟩, ⟨by repeat (first | (with_reducible first | exact HB.out | apply below_alloc | apply pw_below_drewN | apply below_drew1 | refine below_set ?_ GE102.out) | exact HB.out)⟩⟩
           ·rw [if_neg c20] at H
            have c20b0 : (((rd_T40 l0 x19_1).f0) == 2) = false := beq_eq_false_iff_ne.mpr c20
            have c20b1 : (((rd_T40 l0 x19_1).f0) != 2) = true := bne_iff_ne.mpr c20
            replace H := Option.bind_eq_some_iff.mp H
            obtain ⟨t108, A220, H⟩ := H
            replace H : (rung_code.j1 k1 l1 l2 x7_1 false t104 t105 l0 (l0.length : Int) x19_1 (!t108) ((rd_T40 l0 x19_1).f0) ((rd_T40 l0 x19_1).f1) ((rd_T40 l0 x19_1).f2.f0) ((rd_T40 l0 x19_1).f2.f1) ((rd_T40 l0 x19_1).f2.f2) ((rd_T40 l0 x19_1).f2.f3)) = some r := H
            have A22 := Aside0.mk A220
            clear A220
            have H' := Aside0.mk H
            clear H
            have hcz23_0 : w10.cell? ⟨gb102, 0, none⟩ = some (.int .i64 0) := (blk_cell BK102.out 0).trans rfl
            have hcz23_1 : w10.cell? ⟨gb102, 1, none⟩ = some (.string (⟨#[]⟩ : ByteArray)) := (blk_cell BK102.out 1).trans rfl
            have hcz23_2 : w10.cell? ⟨gb102, 2, none⟩ = some (.int .i64 0) := (blk_cell BK102.out 2).trans rfl
            have hcz23_3 : w10.cell? ⟨gb102, 3, none⟩ = some (.int .i64 0) := (blk_cell BK102.out 3).trans rfl
            have hcz23_4 : w10.cell? ⟨gb102, 4, none⟩ = some (.string (⟨#[]⟩ : ByteArray)) := (blk_cell BK102.out 4).trans rfl
            have hcz23_5 : w10.cell? ⟨gb102, 5, none⟩ = some (.slice none 0 0) := (blk_cell BK102.out 5).trans rfl
            have hfz23_0 := blk_frozen BK102.out 0
            have hfz23_1 := blk_frozen BK102.out 1
            have hfz23_2 := blk_frozen BK102.out 2
            have hfz23_3 := blk_frozen BK102.out 3
            have hfz23_4 := blk_frozen BK102.out 4
            have hfz23_5 := blk_frozen BK102.out 5
            go_wp2_with (first | (go_at_call 122; (with_reducible refine (rung_blank.calls ((rd_T40 l0 x19_1).f2.f0) ((rd_T40 l0 x19_1).f2.f1) ((rd_T40 l0 x19_1).f2.f2) _ _ ((rd_T40 l0 x19_1).f2.f3) t108 _ ?side1 ?side2 A22.out).mono ?_); (case side1 => exact Kd.C_below HR101_5.out (by repeat (first | (with_reducible first | exact HB.out | apply below_alloc | apply pw_below_drewN | apply below_drew1 | refine below_set ?_ GE102.out) | exact HB.out))); (case side2 => exact HC101_5.out); rintro e w24 ⟨rfl, hb⟩; have n0_ := Aside0.mk (blk_below (g := gb102) (o := .cells #[.int .i64 ((rd_T40 l0 x19_1).f0), .string ((rd_T40 l0 x19_1).f1), .int .i64 ((rd_T40 l0 x19_1).f2.f0), .int .i64 ((rd_T40 l0 x19_1).f2.f1), .string ((rd_T40 l0 x19_1).f2.f2), .slice A101_5 ((rd_T40 l0 x19_1).f2.f3).length c101_5] 40 (0, 0)) (by (with_reducible repeat (first | refine blk_drewN ?_ _ | refine blk_drew ?_ | refine blk_alloc ?_ _)); refine blk_put (cs := #[.int .i64 ((rd_T40 l0 x19_1).f0), .string ((rd_T40 l0 x19_1).f1), .int .i64 ((rd_T40 l0 x19_1).f2.f0), .int .i64 ((rd_T40 l0 x19_1).f2.f1), .string ((rd_T40 l0 x19_1).f2.f2), .slice none 0 0]) ?_ 5 _ rfl; (with_reducible repeat (first | refine blk_drewN ?_ _ | refine blk_drew ?_ | refine blk_alloc ?_ _)); refine blk_put (cs := #[.int .i64 ((rd_T40 l0 x19_1).f0), .string ((rd_T40 l0 x19_1).f1), .int .i64 ((rd_T40 l0 x19_1).f2.f0), .int .i64 ((rd_T40 l0 x19_1).f2.f1), .string (⟨#[]⟩ : ByteArray), .slice none 0 0]) ?_ 4 _ rfl; (with_reducible repeat (first | refine blk_drewN ?_ _ | refine blk_drew ?_ | refine blk_alloc ?_ _)); refine blk_put (cs := #[.int .i64 ((rd_T40 l0 x19_1).f0), .string ((rd_T40 l0 x19_1).f1), .int .i64 ((rd_T40 l0 x19_1).f2.f0), .int .i64 0, .string (⟨#[]⟩ : ByteArray), .slice none 0 0]) ?_ 3 _ rfl; (with_reducible repeat (first | refine blk_drewN ?_ _ | refine blk_drew ?_ | refine blk_alloc ?_ _)); refine blk_put (cs := #[.int .i64 ((rd_T40 l0 x19_1).f0), .string ((rd_T40 l0 x19_1).f1), .int .i64 0, .int .i64 0, .string (⟨#[]⟩ : ByteArray), .slice none 0 0]) ?_ 2 _ rfl; (with_reducible repeat (first | refine blk_drewN ?_ _ | refine blk_drew ?_ | refine blk_alloc ?_ _)); refine blk_put (cs := #[.int .i64 ((rd_T40 l0 x19_1).f0), .string (⟨#[]⟩ : ByteArray), .int .i64 0, .int .i64 0, .string (⟨#[]⟩ : ByteArray), .slice none 0 0]) ?_ 1 _ rfl; (with_reducible repeat (first | refine blk_drewN ?_ _ | refine blk_drew ?_ | refine blk_alloc ?_ _)); refine blk_put (cs := #[.int .i64 0, .string (⟨#[]⟩ : ByteArray), .int .i64 0, .int .i64 0, .string (⟨#[]⟩ : ByteArray), .slice none 0 0]) ?_ 0 _ rfl; (with_reducible repeat (first | refine blk_drewN ?_ _ | refine blk_drew ?_ | refine blk_alloc ?_ _)); exact BK102.out) hb); have n1_ := Aside0.mk (below_step (by repeat (first | (with_reducible first | exact HB.out | apply below_alloc | apply pw_below_drewN | apply below_drew1 | refine below_set ?_ GE102.out) | exact HB.out)) hb); clear BK102; clear HB; have BK102 := n0_; have HB := n1_; clear n0_ n1_; (try clear hb); (try clear hb2); (try clear hk); (try clear hi)))
            go_meet
            case rel => exact ⟨_, (!t108), (by first | rfl | (simp; done) | (simp [*]; done)), H', ⟨by have := HK1.out; first | omega | exact Nat.le_refl _⟩, ⟨by (with_reducible repeat (first | refine blk_drewN ?_ _ | refine blk_drew ?_ | refine blk_alloc ?_ _)); exact BK102.out⟩, ⟨by repeat (first | (with_reducible first | exact HB.out | apply below_alloc | apply pw_below_drewN | apply below_drew1 | refine below_set ?_ GE102.out) | exact HB.out)⟩⟩
          ·rw [if_neg c19] at H
           have c19b0 : (((rd_T40 l0 x19_1).f1).toList == ([] : List UInt8)) = false := beq_eq_false_iff_ne.mpr c19
           have c19b1 : (((rd_T40 l0 x19_1).f1).toList != ([] : List UInt8)) = true := bne_iff_ne.mpr c19
           have H' := Aside0.mk H
           clear H
           have hcz25_0 : w10.cell? ⟨gb102, 0, none⟩ = some (.int .i64 0) := (blk_cell BK102.out 0).trans rfl
           have hcz25_1 : w10.cell? ⟨gb102, 1, none⟩ = some (.string (⟨#[]⟩ : ByteArray)) := (blk_cell BK102.out 1).trans rfl
           have hcz25_2 : w10.cell? ⟨gb102, 2, none⟩ = some (.int .i64 0) := (blk_cell BK102.out 2).trans rfl
           have hcz25_3 : w10.cell? ⟨gb102, 3, none⟩ = some (.int .i64 0) := (blk_cell BK102.out 3).trans rfl
           have hcz25_4 : w10.cell? ⟨gb102, 4, none⟩ = some (.string (⟨#[]⟩ : ByteArray)) := (blk_cell BK102.out 4).trans rfl
           have hcz25_5 : w10.cell? ⟨gb102, 5, none⟩ = some (.slice none 0 0) := (blk_cell BK102.out 5).trans rfl
           have hfz25_0 := blk_frozen BK102.out 0
           have hfz25_1 := blk_frozen BK102.out 1
           have hfz25_2 := blk_frozen BK102.out 2
           have hfz25_3 := blk_frozen BK102.out 3
           have hfz25_4 := blk_frozen BK102.out 4
           have hfz25_5 := blk_frozen BK102.out 5
           go_wp2
           go_meet
           case rel => exact ⟨_, ((((rd_T40 l0 x19_1).f1).toList != ([] : List UInt8))), (by first | rfl | (simp; done) | (simp [*]; done)), H', ⟨by have := HK1.out; first | omega | exact Nat.le_refl _⟩, ⟨by (with_reducible repeat (first | refine blk_drewN ?_ _ | refine blk_drew ?_ | refine blk_alloc ?_ _)); refine blk_put (cs := #[.int .i64 ((rd_T40 l0 x19_1).f0), .string ((rd_T40 l0 x19_1).f1), .int .i64 ((rd_T40 l0 x19_1).f2.f0), .int .i64 ((rd_T40 l0 x19_1).f2.f1), .string ((rd_T40 l0 x19_1).f2.f2), .slice none 0 0]) ?_ 5 _ rfl; (with_reducible repeat (first | refine blk_drewN ?_ _ | refine blk_drew ?_ | refine blk_alloc ?_ _)); refine blk_put (cs := #[.int .i64 ((rd_T40 l0 x19_1).f0), .string ((rd_T40 l0 x19_1).f1), .int .i64 ((rd_T40 l0 x19_1).f2.f0), .int .i64 ((rd_T40 l0 x19_1).f2.f1), .string (⟨#[]⟩ : ByteArray), .slice none 0 0]) ?_ 4 _ rfl; (with_reducible repeat (first | refine blk_drewN ?_ _ | refine blk_drew ?_ | refine blk_alloc ?_ _)); refine blk_put (cs := #[.int .i64 ((rd_T40 l0 x19_1).f0), .string ((rd_T40 l0 x19_1).f1), .int .i64 ((rd_T40 l0 x19_1).f2.f0), .int .i64 0, .string (⟨#[]⟩ : ByteArray), .slice none 0 0]) ?_ 3 _ rfl; (with_reducible repeat (first | refine blk_drewN ?_ _ | refine blk_drew ?_ | refine blk_alloc ?_ _)); refine blk_put (cs := #[.int .i64 ((rd_T40 l0 x19_1).f0), .string ((rd_T40 l0 x19_1).f1), .int .i64 0, .int .i64 0, .string (⟨#[]⟩ : ByteArray), .slice none 0 0]) ?_ 2 _ rfl; (with_reducible repeat (first | refine blk_drewN ?_ _ | refine blk_drew ?_ | refine blk_alloc ?_ _)); refine blk_put (cs := #[.int .i64 ((rd_T40 l0 x19_1).f0), .string (⟨#[]⟩ : ByteArray), .int .i64 0, .int .i64 0, .string (⟨#[]⟩ : ByteArray), .slice none 0 0]) ?_ 1 _ rfl; (with_reducible repeat (first | refine blk_drewN ?_ _ | refine blk_drew ?_ | refine blk_alloc ?_ _)); refine blk_put (cs := #[.int .i64 0, .string (⟨#[]⟩ : ByteArray), .int .i64 0, .int .i64 0, .string (⟨#[]⟩ : ByteArray), .slice none 0 0]) ?_ 0 _ rfl; (with_reducible repeat (first | refine blk_drewN ?_ _ | refine blk_drew ?_ | refine blk_alloc ?_ _)); exact BK102.out⟩, ⟨by repeat (first | (with_reducible first | exact HB.out | apply below_alloc | apply pw_below_drewN | apply below_drew1 | refine below_set ?_ GE102.out) | exact HB.out)⟩⟩
        ·replace c12 := Bool.eq_false_iff.mpr c12
         subst c12
         have H1 : (rung_code.j1 k1 l1 l2 x7_1 t103 t104 t105 l0 (l0.length : Int) x19_1 (!false) ((rd_T40 l0 x19_1).f0) ((rd_T40 l0 x19_1).f1) ((rd_T40 l0 x19_1).f2.f0) ((rd_T40 l0 x19_1).f2.f1) ((rd_T40 l0 x19_1).f2.f2) ((rd_T40 l0 x19_1).f2.f3)) = some r := by rw [if_neg (show ¬ (false = true) by decide)] at H; exact H
         clear H
         have H := H1
         clear H1
         have H' := Aside0.mk H
         clear H
         go_wp2
         go_meet
         case rel => exact ⟨_, (!false), (by first | rfl | (simp; done) | (simp [*]; done)), H', ⟨by have := HK1.out; first | omega | exact Nat.le_refl _⟩, ⟨by (with_reducible repeat (first | refine blk_drewN ?_ _ | refine blk_drew ?_ | refine blk_alloc ?_ _)); refine blk_put (cs := #[.int .i64 ((rd_T40 l0 x19_1).f0), .string ((rd_T40 l0 x19_1).f1), .int .i64 ((rd_T40 l0 x19_1).f2.f0), .int .i64 ((rd_T40 l0 x19_1).f2.f1), .string ((rd_T40 l0 x19_1).f2.f2), .slice none 0 0]) ?_ 5 _ rfl; (with_reducible repeat (first | refine blk_drewN ?_ _ | refine blk_drew ?_ | refine blk_alloc ?_ _)); refine blk_put (cs := #[.int .i64 ((rd_T40 l0 x19_1).f0), .string ((rd_T40 l0 x19_1).f1), .int .i64 ((rd_T40 l0 x19_1).f2.f0), .int .i64 ((rd_T40 l0 x19_1).f2.f1), .string (⟨#[]⟩ : ByteArray), .slice none 0 0]) ?_ 4 _ rfl; (with_reducible repeat (first | refine blk_drewN ?_ _ | refine blk_drew ?_ | refine blk_alloc ?_ _)); refine blk_put (cs := #[.int .i64 ((rd_T40 l0 x19_1).f0), .string ((rd_T40 l0 x19_1).f1), .int .i64 ((rd_T40 l0 x19_1).f2.f0), .int .i64 0, .string (⟨#[]⟩ : ByteArray), .slice none 0 0]) ?_ 3 _ rfl; (with_reducible repeat (first | refine blk_drewN ?_ _ | refine blk_drew ?_ | refine blk_alloc ?_ _)); refine blk_put (cs := #[.int .i64 ((rd_T40 l0 x19_1).f0), .string ((rd_T40 l0 x19_1).f1), .int .i64 0, .int .i64 0, .string (⟨#[]⟩ : ByteArray), .slice none 0 0]) ?_ 2 _ rfl; (with_reducible repeat (first | refine blk_drewN ?_ _ | refine blk_drew ?_ | refine blk_alloc ?_ _)); refine blk_put (cs := #[.int .i64 ((rd_T40 l0 x19_1).f0), .string (⟨#[]⟩ : ByteArray), .int .i64 0, .int .i64 0, .string (⟨#[]⟩ : ByteArray), .slice none 0 0]) ?_ 1 _ rfl; (with_reducible repeat (first | refine blk_drewN ?_ _ | refine blk_drew ?_ | refine blk_alloc ?_ _)); refine blk_put (cs := #[.int .i64 0, .string (⟨#[]⟩ : ByteArray), .int .i64 0, .int .i64 0, .string (⟨#[]⟩ : ByteArray), .slice none 0 0]) ?_ 0 _ rfl; (with_reducible repeat (first | refine blk_drewN ?_ _ | refine blk_drew ?_ | refine blk_alloc ?_ _)); exact BK102.out⟩, ⟨by repeat (first | (with_reducible first | exact HB.out | apply below_alloc | apply pw_below_drewN | apply below_drew1 | refine below_set ?_ GE102.out) | exact HB.out)⟩⟩
       case rest =>
        clear HC9
        obtain ⟨kq, x31_8, rfl, HA, HJ8, BK102, HB⟩ := hcut
        cases kq with
        | zero => exact absurd HA.out (by simp [rung_code.j1])
        | succ kj8 =>
         have H := HA.out
         clear HA
         simp only [rung_code.j1] at H
         by_cases c26 : x31_8 = true
         ·subst c26
          have H1 : (some 1) = some r := by rw [if_pos rfl] at H; exact H
          clear H
          have H := H1
          clear H1
          obtain rfl := Option.some.inj H
          go_wp2
          go_ret
          exact ⟨by first | rfl | (simp [errW_none, errW_some] <;> rfl) | (simp [*, errW_none, errW_some] <;> rfl), by repeat (first | (with_reducible first | exact HB.out | apply below_alloc | apply pw_below_drewN | apply below_drew1 | refine below_set ?_ GE102.out) | exact HB.out)⟩
         ·replace c26 := Bool.eq_false_iff.mpr c26
          subst c26
          have H1 : (if t103 = true then ((slices_Contains_string_string.f kj8 l1 ((rd_T40 l0 x19_1).f1)).bind fun t109 => (rung_code.j2 kj8 l1 l2 x7_1 t104 t105 l0 (l0.length : Int) x19_1 (!t109) ((rd_T40 l0 x19_1).f0) ((rd_T40 l0 x19_1).f1) ((rd_T40 l0 x19_1).f2.f0) ((rd_T40 l0 x19_1).f2.f1) ((rd_T40 l0 x19_1).f2.f2) ((rd_T40 l0 x19_1).f2.f3))) else (rung_code.j2 kj8 l1 l2 x7_1 t104 t105 l0 (l0.length : Int) x19_1 false ((rd_T40 l0 x19_1).f0) ((rd_T40 l0 x19_1).f1) ((rd_T40 l0 x19_1).f2.f0) ((rd_T40 l0 x19_1).f2.f1) ((rd_T40 l0 x19_1).f2.f2) ((rd_T40 l0 x19_1).f2.f3))) = some r := by rw [if_neg (show ¬ (false = true) by decide)] at H; exact H
          clear H
          have H := H1
          clear H1
          have HC27 := Aside0.mk H
          clear H
          go_upto_region 12 with (fail)
          go_cut [50] (fun v50 wc => ∃ (kq : Nat) (x50_26 : Bool), v50 = .bool x50_26 ∧ Aside0 (rung_code.j2 kq l1 l2 x7_1 t104 t105 l0 (l0.length : Int) x19_1 x50_26 ((rd_T40 l0 x19_1).f0) ((rd_T40 l0 x19_1).f1) ((rd_T40 l0 x19_1).f2.f0) ((rd_T40 l0 x19_1).f2.f1) ((rd_T40 l0 x19_1).f2.f2) ((rd_T40 l0 x19_1).f2.f3) = some r) ∧ Aside0 (kq ≤ kj8) ∧ Aside0 (wc.heap[gb102]? = some (.cells #[.int .i64 ((rd_T40 l0 x19_1).f0), .string ((rd_T40 l0 x19_1).f1), .int .i64 ((rd_T40 l0 x19_1).f2.f0), .int .i64 ((rd_T40 l0 x19_1).f2.f1), .string ((rd_T40 l0 x19_1).f2.f2), (.slice A101_5 ((rd_T40 l0 x19_1).f2.f3).length c101_5)] 40 (0, 0))) ∧ Aside0 (Below w.heap.size w wc))
          case first =>
           have H := HC27.out
           clear HC27
           by_cases c28 : t103 = true
           ·subst c28
            have H1 : ((slices_Contains_string_string.f kj8 l1 ((rd_T40 l0 x19_1).f1)).bind fun t109 => (rung_code.j2 kj8 l1 l2 x7_1 t104 t105 l0 (l0.length : Int) x19_1 (!t109) ((rd_T40 l0 x19_1).f0) ((rd_T40 l0 x19_1).f1) ((rd_T40 l0 x19_1).f2.f0) ((rd_T40 l0 x19_1).f2.f1) ((rd_T40 l0 x19_1).f2.f2) ((rd_T40 l0 x19_1).f2.f3))) = some r := by rw [if_pos rfl] at H; exact H
            clear H
            have H := H1
            clear H1
            replace H := Option.bind_eq_some_iff.mp H
            obtain ⟨t109, A290, H⟩ := H
            replace H : (rung_code.j2 kj8 l1 l2 x7_1 t104 t105 l0 (l0.length : Int) x19_1 (!t109) ((rd_T40 l0 x19_1).f0) ((rd_T40 l0 x19_1).f1) ((rd_T40 l0 x19_1).f2.f0) ((rd_T40 l0 x19_1).f2.f1) ((rd_T40 l0 x19_1).f2.f2) ((rd_T40 l0 x19_1).f2.f3)) = some r := H
            have A29 := Aside0.mk A290
            clear A290
            have H' := Aside0.mk H
            clear H
            have hcz30_0 : wc.cell? ⟨gb102, 0, none⟩ = some (.int .i64 ((rd_T40 l0 x19_1).f0)) := (blk_cell BK102.out 0).trans rfl
            have hcz30_1 : wc.cell? ⟨gb102, 1, none⟩ = some (.string ((rd_T40 l0 x19_1).f1)) := (blk_cell BK102.out 1).trans rfl
            have hcz30_2 : wc.cell? ⟨gb102, 2, none⟩ = some (.int .i64 ((rd_T40 l0 x19_1).f2.f0)) := (blk_cell BK102.out 2).trans rfl
            have hcz30_3 : wc.cell? ⟨gb102, 3, none⟩ = some (.int .i64 ((rd_T40 l0 x19_1).f2.f1)) := (blk_cell BK102.out 3).trans rfl
            have hcz30_4 : wc.cell? ⟨gb102, 4, none⟩ = some (.string ((rd_T40 l0 x19_1).f2.f2)) := (blk_cell BK102.out 4).trans rfl
            have hcz30_5 : wc.cell? ⟨gb102, 5, none⟩ = some (.slice A101_5 ((rd_T40 l0 x19_1).f2.f3).length c101_5) := (blk_cell BK102.out 5).trans rfl
            have hfz30_0 := blk_frozen BK102.out 0
            have hfz30_1 := blk_frozen BK102.out 1
            have hfz30_2 := blk_frozen BK102.out 2
            have hfz30_3 := blk_frozen BK102.out 3
            have hfz30_4 := blk_frozen BK102.out 4
            have hfz30_5 := blk_frozen BK102.out 5
            go_wp2_with (first | (go_at_call 61; (with_reducible refine (slices_Contains_string_string.calls kj8 _ _ l1 ((rd_T40 l0 x19_1).f1) t109 _ ?side1 ?side2 A29.out).mono ?_); (case side1 => repeat (first | exact (Kd.C_below HR1.out HB.out) | (with_reducible refine Kd.C_alloc ?_ _) | (with_reducible refine Kd.C_drewN ?_ _) | (with_reducible refine Kd.C_drew ?_))); (case side2 => exact HC1.out); rintro e w' ⟨rfl, ⟨nd, rfl⟩⟩))
            go_meet
            case rel => exact ⟨_, (!t109), (by first | rfl | (simp; done) | (simp [*]; done)), H', ⟨by have := HK1.out; have := HJ8.out; first | omega | exact Nat.le_refl _⟩, ⟨by (with_reducible repeat (first | refine blk_drewN ?_ _ | refine blk_drew ?_ | refine blk_alloc ?_ _)); exact BK102.out⟩, ⟨by repeat (first | (with_reducible first | exact HB.out | apply below_alloc | apply pw_below_drewN | apply below_drew1 | refine below_set ?_ GE102.out) | exact HB.out)⟩⟩
           ·replace c28 := Bool.eq_false_iff.mpr c28
            subst c28
            have H1 : (rung_code.j2 kj8 l1 l2 x7_1 t104 t105 l0 (l0.length : Int) x19_1 false ((rd_T40 l0 x19_1).f0) ((rd_T40 l0 x19_1).f1) ((rd_T40 l0 x19_1).f2.f0) ((rd_T40 l0 x19_1).f2.f1) ((rd_T40 l0 x19_1).f2.f2) ((rd_T40 l0 x19_1).f2.f3)) = some r := by rw [if_neg (show ¬ (false = true) by decide)] at H; exact H
            clear H
            have H := H1
            clear H1
            have H' := Aside0.mk H
            clear H
            go_wp2
            go_meet
            case rel => exact ⟨_, (false), (by first | rfl | (simp; done) | (simp [*]; done)), H', ⟨by have := HK1.out; have := HJ8.out; first | omega | exact Nat.le_refl _⟩, ⟨by (with_reducible repeat (first | refine blk_drewN ?_ _ | refine blk_drew ?_ | refine blk_alloc ?_ _)); exact BK102.out⟩, ⟨by repeat (first | (with_reducible first | exact HB.out | apply below_alloc | apply pw_below_drewN | apply below_drew1 | refine below_set ?_ GE102.out) | exact HB.out)⟩⟩
          case rest =>
           clear HC27
           obtain ⟨kq, x50_26, rfl, HA, HJ26, BK102, HB⟩ := hcut
           cases kq with
           | zero => exact absurd HA.out (by simp [rung_code.j2])
           | succ kj26 =>
            have H := HA.out
            clear HA
            simp only [rung_code.j2] at H
            have HC31 := Aside0.mk H
            clear H
            go_upto_if 50 with (fail)
            go_cut [50] (fun v50 wc => ∃ (kq : Nat) (x50_30 : Bool), v50 = .bool x50_30 ∧ Aside0 (rung_code.j3 kq l1 l2 x7_1 t104 t105 l0 (l0.length : Int) x19_1 x50_30 ((rd_T40 l0 x19_1).f0) ((rd_T40 l0 x19_1).f1) ((rd_T40 l0 x19_1).f2.f0) ((rd_T40 l0 x19_1).f2.f1) ((rd_T40 l0 x19_1).f2.f2) ((rd_T40 l0 x19_1).f2.f3) = some r) ∧ Aside0 (kq ≤ kj26) ∧ Aside0 (wc.heap[gb102]? = some (.cells #[.int .i64 ((rd_T40 l0 x19_1).f0), .string ((rd_T40 l0 x19_1).f1), .int .i64 ((rd_T40 l0 x19_1).f2.f0), .int .i64 ((rd_T40 l0 x19_1).f2.f1), .string ((rd_T40 l0 x19_1).f2.f2), (.slice A101_5 ((rd_T40 l0 x19_1).f2.f3).length c101_5)] 40 (0, 0))) ∧ Aside0 (Below w.heap.size w wc))
            case first =>
             have H := HC31.out
             clear HC31
             by_cases c32 : x50_26 = true
             ·subst c32
              have H1 : (rung_code.j3 kj26 l1 l2 x7_1 t104 t105 l0 (l0.length : Int) x19_1 true ((rd_T40 l0 x19_1).f0) ((rd_T40 l0 x19_1).f1) ((rd_T40 l0 x19_1).f2.f0) ((rd_T40 l0 x19_1).f2.f1) ((rd_T40 l0 x19_1).f2.f2) ((rd_T40 l0 x19_1).f2.f3)) = some r := by rw [if_pos rfl] at H; exact H
              clear H
              have H := H1
              clear H1
              have H' := Aside0.mk H
              clear H
              go_wp2
              go_meet
              case rel => exact ⟨_, (true), (by first | rfl | (simp; done) | (simp [*]; done)), H', ⟨by have := HK1.out; have := HJ8.out; have := HJ26.out; first | omega | exact Nat.le_refl _⟩, ⟨by (with_reducible repeat (first | refine blk_drewN ?_ _ | refine blk_drew ?_ | refine blk_alloc ?_ _)); exact BK102.out⟩, ⟨by repeat (first | (with_reducible first | exact HB.out | apply below_alloc | apply pw_below_drewN | apply below_drew1 | refine below_set ?_ GE102.out) | exact HB.out)⟩⟩
             ·replace c32 := Bool.eq_false_iff.mpr c32
              subst c32
              have H1 : (if ((rd_T40 l0 x19_1).f0) = 2 then ((rung_strange.f kj26 ((rd_T40 l0 x19_1).f2.f0) ((rd_T40 l0 x19_1).f2.f1) ((rd_T40 l0 x19_1).f2.f2) ((rd_T40 l0 x19_1).f2.f3) l2).bind fun t110 => (rung_code.j3 kj26 l1 l2 x7_1 t104 t105 l0 (l0.length : Int) x19_1 t110 ((rd_T40 l0 x19_1).f0) ((rd_T40 l0 x19_1).f1) ((rd_T40 l0 x19_1).f2.f0) ((rd_T40 l0 x19_1).f2.f1) ((rd_T40 l0 x19_1).f2.f2) ((rd_T40 l0 x19_1).f2.f3))) else (rung_code.j3 kj26 l1 l2 x7_1 t104 t105 l0 (l0.length : Int) x19_1 false ((rd_T40 l0 x19_1).f0) ((rd_T40 l0 x19_1).f1) ((rd_T40 l0 x19_1).f2.f0) ((rd_T40 l0 x19_1).f2.f1) ((rd_T40 l0 x19_1).f2.f2) ((rd_T40 l0 x19_1).f2.f3))) = some r := by rw [if_neg (show ¬ (false = true) by decide)] at H; exact H
              clear H
              have H := H1
              clear H1
              by_cases c33 : ((rd_T40 l0 x19_1).f0) = 2
              ·rw [if_pos c33] at H
               have c33b0 : (((rd_T40 l0 x19_1).f0) == 2) = true := beq_iff_eq.mpr c33
               have c33b1 : (((rd_T40 l0 x19_1).f0) != 2) = false := bne_eq_false_iff_eq.mpr c33
               clear c33
               (first | rw [c33b0] | (simp only [i64_w, i32_w]; rw [c33b0]) | skip)
               replace H := Option.bind_eq_some_iff.mp H
               obtain ⟨t110, A340, H⟩ := H
               replace H : (rung_code.j3 kj26 l1 l2 x7_1 t104 t105 l0 (l0.length : Int) x19_1 t110 ((rd_T40 l0 x19_1).f0) ((rd_T40 l0 x19_1).f1) ((rd_T40 l0 x19_1).f2.f0) ((rd_T40 l0 x19_1).f2.f1) ((rd_T40 l0 x19_1).f2.f2) ((rd_T40 l0 x19_1).f2.f3)) = some r := H
               have A34 := Aside0.mk A340
               clear A340
               have H' := Aside0.mk H
               clear H
               have hcz35_0 : wc.cell? ⟨gb102, 0, none⟩ = some (.int .i64 ((rd_T40 l0 x19_1).f0)) := (blk_cell BK102.out 0).trans rfl
               have hcz35_1 : wc.cell? ⟨gb102, 1, none⟩ = some (.string ((rd_T40 l0 x19_1).f1)) := (blk_cell BK102.out 1).trans rfl
               have hcz35_2 : wc.cell? ⟨gb102, 2, none⟩ = some (.int .i64 ((rd_T40 l0 x19_1).f2.f0)) := (blk_cell BK102.out 2).trans rfl
               have hcz35_3 : wc.cell? ⟨gb102, 3, none⟩ = some (.int .i64 ((rd_T40 l0 x19_1).f2.f1)) := (blk_cell BK102.out 3).trans rfl
               have hcz35_4 : wc.cell? ⟨gb102, 4, none⟩ = some (.string ((rd_T40 l0 x19_1).f2.f2)) := (blk_cell BK102.out 4).trans rfl
               have hcz35_5 : wc.cell? ⟨gb102, 5, none⟩ = some (.slice A101_5 ((rd_T40 l0 x19_1).f2.f3).length c101_5) := (blk_cell BK102.out 5).trans rfl
               have hfz35_0 := blk_frozen BK102.out 0
               have hfz35_1 := blk_frozen BK102.out 1
               have hfz35_2 := blk_frozen BK102.out 2
               have hfz35_3 := blk_frozen BK102.out 3
               have hfz35_4 := blk_frozen BK102.out 4
               have hfz35_5 := blk_frozen BK102.out 5
               go_wp2_with (first | (go_at_call 123; (with_reducible refine (rung_strange.calls kj26 ((rd_T40 l0 x19_1).f2.f0) ((rd_T40 l0 x19_1).f2.f1) ((rd_T40 l0 x19_1).f2.f2) _ _ ((rd_T40 l0 x19_1).f2.f3) _ _ l2 t110 _ ?side1 ?side2 ?side3 ?side4 A34.out HNL.out (by first | exact HT0.out | exact UT.below HT0.out (by repeat (first | (with_reducible first | exact HB.out | apply below_alloc | apply pw_below_drewN | apply below_drew1 | refine below_set ?_ GE102.out) | exact HB.out)))).mono ?_); (case side1 => repeat (first | exact (Kd.C_below HR101_5.out HB.out) | (with_reducible refine Kd.C_alloc ?_ _) | (with_reducible refine Kd.C_drewN ?_ _) | (with_reducible refine Kd.C_drew ?_))); (case side2 => exact HC101_5.out); (case side3 => repeat (first | exact (Kd.C_below HR2.out HB.out) | (with_reducible refine Kd.C_alloc ?_ _) | (with_reducible refine Kd.C_drewN ?_ _) | (with_reducible refine Kd.C_drew ?_))); (case side4 => exact HC2.out); rintro e w36 ⟨rfl, hb⟩; have n0_ := Aside0.mk (blk_below (g := gb102) (o := .cells #[.int .i64 ((rd_T40 l0 x19_1).f0), .string ((rd_T40 l0 x19_1).f1), .int .i64 ((rd_T40 l0 x19_1).f2.f0), .int .i64 ((rd_T40 l0 x19_1).f2.f1), .string ((rd_T40 l0 x19_1).f2.f2), .slice A101_5 ((rd_T40 l0 x19_1).f2.f3).length c101_5] 40 (0, 0)) (by (with_reducible repeat (first | refine blk_drewN ?_ _ | refine blk_drew ?_ | refine blk_alloc ?_ _)); exact BK102.out) hb); have n1_ := Aside0.mk (below_step (by repeat (first | (with_reducible first | exact HB.out | apply below_alloc | apply pw_below_drewN | apply below_drew1 | refine below_set ?_ GE102.out) | exact HB.out)) hb); clear BK102; clear HB; have BK102 := n0_; have HB := n1_; clear n0_ n1_; (try clear hb); (try clear hb2); (try clear hk); (try clear hi)))
               go_meet
               case rel => exact ⟨_, (t110), (by first | rfl | (simp; done) | (simp [*]; done)), H', ⟨by have := HK1.out; have := HJ8.out; have := HJ26.out; first | omega | exact Nat.le_refl _⟩, ⟨by (with_reducible repeat (first | refine blk_drewN ?_ _ | refine blk_drew ?_ | refine blk_alloc ?_ _)); exact BK102.out⟩, ⟨by repeat (first | (with_reducible first | exact HB.out | apply below_alloc | apply pw_below_drewN | apply below_drew1 | refine below_set ?_ GE102.out) | exact HB.out)⟩⟩
              ·rw [if_neg c33] at H
               have c33b0 : (((rd_T40 l0 x19_1).f0) == 2) = false := beq_eq_false_iff_ne.mpr c33
               have c33b1 : (((rd_T40 l0 x19_1).f0) != 2) = true := bne_iff_ne.mpr c33
               (first | rw [c33b0] | (simp only [i64_w, i32_w]; rw [c33b0]) | skip)
               have H' := Aside0.mk H
               clear H
               have hcz37_0 : wc.cell? ⟨gb102, 0, none⟩ = some (.int .i64 ((rd_T40 l0 x19_1).f0)) := (blk_cell BK102.out 0).trans rfl
               have hcz37_1 : wc.cell? ⟨gb102, 1, none⟩ = some (.string ((rd_T40 l0 x19_1).f1)) := (blk_cell BK102.out 1).trans rfl
               have hcz37_2 : wc.cell? ⟨gb102, 2, none⟩ = some (.int .i64 ((rd_T40 l0 x19_1).f2.f0)) := (blk_cell BK102.out 2).trans rfl
               have hcz37_3 : wc.cell? ⟨gb102, 3, none⟩ = some (.int .i64 ((rd_T40 l0 x19_1).f2.f1)) := (blk_cell BK102.out 3).trans rfl
               have hcz37_4 : wc.cell? ⟨gb102, 4, none⟩ = some (.string ((rd_T40 l0 x19_1).f2.f2)) := (blk_cell BK102.out 4).trans rfl
               have hcz37_5 : wc.cell? ⟨gb102, 5, none⟩ = some (.slice A101_5 ((rd_T40 l0 x19_1).f2.f3).length c101_5) := (blk_cell BK102.out 5).trans rfl
               have hfz37_0 := blk_frozen BK102.out 0
               have hfz37_1 := blk_frozen BK102.out 1
               have hfz37_2 := blk_frozen BK102.out 2
               have hfz37_3 := blk_frozen BK102.out 3
               have hfz37_4 := blk_frozen BK102.out 4
               have hfz37_5 := blk_frozen BK102.out 5
               go_wp2
               go_meet
               case rel => exact ⟨_, (false), (by first | rfl | (simp; done) | (simp [*]; done)), H', ⟨by have := HK1.out; have := HJ8.out; have := HJ26.out; first | omega | exact Nat.le_refl _⟩, ⟨by (with_reducible repeat (first | refine blk_drewN ?_ _ | refine blk_drew ?_ | refine blk_alloc ?_ _)); exact BK102.out⟩, ⟨by repeat (first | (with_reducible first | exact HB.out | apply below_alloc | apply pw_below_drewN | apply below_drew1 | refine below_set ?_ GE102.out) | exact HB.out)⟩⟩
            case rest =>
             clear HC31
             obtain ⟨kq, x50_30, rfl, HA, HJ30, BK102, HB⟩ := hcut
             cases kq with
             | zero => exact absurd HA.out (by simp [rung_code.j3])
             | succ kj30 =>
              have H := HA.out
              clear HA
              simp only [rung_code.j3] at H
              by_cases c38 : x50_30 = true
              ·subst c38
               have H1 : (some 21) = some r := by rw [if_pos rfl] at H; exact H
               clear H
               have H := H1
               clear H1
               obtain rfl := Option.some.inj H
               go_wp2
               go_ret
               exact ⟨by first | rfl | (simp [errW_none, errW_some] <;> rfl) | (simp [*, errW_none, errW_some] <;> rfl), by repeat (first | (with_reducible first | exact HB.out | apply below_alloc | apply pw_below_drewN | apply below_drew1 | refine below_set ?_ GE102.out) | exact HB.out)⟩
              ·replace c38 := Bool.eq_false_iff.mpr c38
               subst c38
               have H1 : (if ((rd_T40 l0 x19_1).f0) = 2 then ((expr_May.f kj30 ((rd_T40 l0 x19_1).f2.f0) ((rd_T40 l0 x19_1).f2.f1) ((rd_T40 l0 x19_1).f2.f2) ((rd_T40 l0 x19_1).f2.f3)).bind fun t111 => (rung_code.j4 kj30 l1 l2 x7_1 t104 t105 l0 (l0.length : Int) x19_1 (!t111))) else (rung_code.j4 kj30 l1 l2 x7_1 t104 t105 l0 (l0.length : Int) x19_1 false)) = some r := by rw [if_neg (show ¬ (false = true) by decide)] at H; exact H
               clear H
               have H := H1
               clear H1
               have HC39 := Aside0.mk H
               clear H
               go_upto_region 15 with (fail)
               go_cut [68] (fun v68 wc => ∃ (kq : Nat) (x68_38 : Bool), v68 = .bool x68_38 ∧ Aside0 (rung_code.j4 kq l1 l2 x7_1 t104 t105 l0 (l0.length : Int) x19_1 x68_38 = some r) ∧ Aside0 (kq ≤ kj30) ∧ Aside0 (wc.heap[gb102]? = some (.cells #[.int .i64 ((rd_T40 l0 x19_1).f0), .string ((rd_T40 l0 x19_1).f1), .int .i64 ((rd_T40 l0 x19_1).f2.f0), .int .i64 ((rd_T40 l0 x19_1).f2.f1), .string ((rd_T40 l0 x19_1).f2.f2), (.slice A101_5 ((rd_T40 l0 x19_1).f2.f3).length c101_5)] 40 (0, 0))) ∧ Aside0 (Below w.heap.size w wc))
               case first =>
                have H := HC39.out
                clear HC39
                by_cases c40 : ((rd_T40 l0 x19_1).f0) = 2
                ·rw [if_pos c40] at H
                 have c40b0 : (((rd_T40 l0 x19_1).f0) == 2) = true := beq_iff_eq.mpr c40
                 have c40b1 : (((rd_T40 l0 x19_1).f0) != 2) = false := bne_eq_false_iff_eq.mpr c40
                 clear c40
                 (first | rw [c40b0] | (simp only [i64_w, i32_w]; rw [c40b0]) | skip)
                 replace H := Option.bind_eq_some_iff.mp H
                 obtain ⟨t111, A410, H⟩ := H
                 replace H : (rung_code.j4 kj30 l1 l2 x7_1 t104 t105 l0 (l0.length : Int) x19_1 (!t111)) = some r := H
                 have A41 := Aside0.mk A410
                 clear A410
                 have H' := Aside0.mk H
                 clear H
                 have hcz42_0 : wc.cell? ⟨gb102, 0, none⟩ = some (.int .i64 ((rd_T40 l0 x19_1).f0)) := (blk_cell BK102.out 0).trans rfl
                 have hcz42_1 : wc.cell? ⟨gb102, 1, none⟩ = some (.string ((rd_T40 l0 x19_1).f1)) := (blk_cell BK102.out 1).trans rfl
                 have hcz42_2 : wc.cell? ⟨gb102, 2, none⟩ = some (.int .i64 ((rd_T40 l0 x19_1).f2.f0)) := (blk_cell BK102.out 2).trans rfl
                 have hcz42_3 : wc.cell? ⟨gb102, 3, none⟩ = some (.int .i64 ((rd_T40 l0 x19_1).f2.f1)) := (blk_cell BK102.out 3).trans rfl
                 have hcz42_4 : wc.cell? ⟨gb102, 4, none⟩ = some (.string ((rd_T40 l0 x19_1).f2.f2)) := (blk_cell BK102.out 4).trans rfl
                 have hcz42_5 : wc.cell? ⟨gb102, 5, none⟩ = some (.slice A101_5 ((rd_T40 l0 x19_1).f2.f3).length c101_5) := (blk_cell BK102.out 5).trans rfl
                 have hfz42_0 := blk_frozen BK102.out 0
                 have hfz42_1 := blk_frozen BK102.out 1
                 have hfz42_2 := blk_frozen BK102.out 2
                 have hfz42_3 := blk_frozen BK102.out 3
                 have hfz42_4 := blk_frozen BK102.out 4
                 have hfz42_5 := blk_frozen BK102.out 5
                 go_wp2_with (first | (go_at_call 29; (with_reducible refine (expr_May.calls kj30 ((rd_T40 l0 x19_1).f2.f0) ((rd_T40 l0 x19_1).f2.f1) ((rd_T40 l0 x19_1).f2.f2) _ _ ((rd_T40 l0 x19_1).f2.f3) t111 _ ?side1 ?side2 A41.out (by first | exact HT0.out | exact UT.below HT0.out (by repeat (first | (with_reducible first | exact HB.out | apply below_alloc | apply pw_below_drewN | apply below_drew1 | refine below_set ?_ GE102.out) | exact HB.out)))).mono ?_); (case side1 => repeat (first | exact (Kd.C_below HR101_5.out HB.out) | (with_reducible refine Kd.C_alloc ?_ _) | (with_reducible refine Kd.C_drewN ?_ _) | (with_reducible refine Kd.C_drew ?_))); (case side2 => exact HC101_5.out); rintro e w43 ⟨rfl, hb⟩; have n0_ := Aside0.mk (blk_below (g := gb102) (o := .cells #[.int .i64 ((rd_T40 l0 x19_1).f0), .string ((rd_T40 l0 x19_1).f1), .int .i64 ((rd_T40 l0 x19_1).f2.f0), .int .i64 ((rd_T40 l0 x19_1).f2.f1), .string ((rd_T40 l0 x19_1).f2.f2), .slice A101_5 ((rd_T40 l0 x19_1).f2.f3).length c101_5] 40 (0, 0)) (by (with_reducible repeat (first | refine blk_drewN ?_ _ | refine blk_drew ?_ | refine blk_alloc ?_ _)); exact BK102.out) hb); have n1_ := Aside0.mk (below_step (by repeat (first | (with_reducible first | exact HB.out | apply below_alloc | apply pw_below_drewN | apply below_drew1 | refine below_set ?_ GE102.out) | exact HB.out)) hb); clear BK102; clear HB; have BK102 := n0_; have HB := n1_; clear n0_ n1_; (try clear hb); (try clear hb2); (try clear hk); (try clear hi)))
                 go_meet
                 case rel => exact ⟨_, (!t111), (by first | rfl | (simp; done) | (simp [*]; done)), H', ⟨by have := HK1.out; have := HJ8.out; have := HJ26.out; have := HJ30.out; first | omega | exact Nat.le_refl _⟩, ⟨by (with_reducible repeat (first | refine blk_drewN ?_ _ | refine blk_drew ?_ | refine blk_alloc ?_ _)); exact BK102.out⟩, ⟨by repeat (first | (with_reducible first | exact HB.out | apply below_alloc | apply pw_below_drewN | apply below_drew1 | refine below_set ?_ GE102.out) | exact HB.out)⟩⟩
                ·rw [if_neg c40] at H
                 have c40b0 : (((rd_T40 l0 x19_1).f0) == 2) = false := beq_eq_false_iff_ne.mpr c40
                 have c40b1 : (((rd_T40 l0 x19_1).f0) != 2) = true := bne_iff_ne.mpr c40
                 (first | rw [c40b0] | (simp only [i64_w, i32_w]; rw [c40b0]) | skip)
                 have H' := Aside0.mk H
                 clear H
                 have hcz44_0 : wc.cell? ⟨gb102, 0, none⟩ = some (.int .i64 ((rd_T40 l0 x19_1).f0)) := (blk_cell BK102.out 0).trans rfl
                 have hcz44_1 : wc.cell? ⟨gb102, 1, none⟩ = some (.string ((rd_T40 l0 x19_1).f1)) := (blk_cell BK102.out 1).trans rfl
                 have hcz44_2 : wc.cell? ⟨gb102, 2, none⟩ = some (.int .i64 ((rd_T40 l0 x19_1).f2.f0)) := (blk_cell BK102.out 2).trans rfl
                 have hcz44_3 : wc.cell? ⟨gb102, 3, none⟩ = some (.int .i64 ((rd_T40 l0 x19_1).f2.f1)) := (blk_cell BK102.out 3).trans rfl
                 have hcz44_4 : wc.cell? ⟨gb102, 4, none⟩ = some (.string ((rd_T40 l0 x19_1).f2.f2)) := (blk_cell BK102.out 4).trans rfl
                 have hcz44_5 : wc.cell? ⟨gb102, 5, none⟩ = some (.slice A101_5 ((rd_T40 l0 x19_1).f2.f3).length c101_5) := (blk_cell BK102.out 5).trans rfl
                 have hfz44_0 := blk_frozen BK102.out 0
                 have hfz44_1 := blk_frozen BK102.out 1
                 have hfz44_2 := blk_frozen BK102.out 2
                 have hfz44_3 := blk_frozen BK102.out 3
                 have hfz44_4 := blk_frozen BK102.out 4
                 have hfz44_5 := blk_frozen BK102.out 5
                 go_wp2
                 go_meet
                 case rel => exact ⟨_, (false), (by first | rfl | (simp; done) | (simp [*]; done)), H', ⟨by have := HK1.out; have := HJ8.out; have := HJ26.out; have := HJ30.out; first | omega | exact Nat.le_refl _⟩, ⟨by (with_reducible repeat (first | refine blk_drewN ?_ _ | refine blk_drew ?_ | refine blk_alloc ?_ _)); exact BK102.out⟩, ⟨by repeat (first | (with_reducible first | exact HB.out | apply below_alloc | apply pw_below_drewN | apply below_drew1 | refine below_set ?_ GE102.out) | exact HB.out)⟩⟩
               case rest =>
                clear HC39
                obtain ⟨kq, x68_38, rfl, HA, HJ38, BK102, HB⟩ := hcut
                cases kq with
                | zero => exact absurd HA.out (by simp [rung_code.j4])
                | succ kj38 =>
                 have H := HA.out
                 clear HA
                 simp only [rung_code.j4] at H
                 by_cases c45 : x68_38 = true
                 ·subst c45
                  have H1 : (some 1) = some r := by rw [if_pos rfl] at H; exact H
                  clear H
                  have H := H1
                  clear H1
                  obtain rfl := Option.some.inj H
                  go_wp2
                  go_ret
                  exact ⟨by first | rfl | (simp [errW_none, errW_some] <;> rfl) | (simp [*, errW_none, errW_some] <;> rfl), by repeat (first | (with_reducible first | exact HB.out | apply below_alloc | apply pw_below_drewN | apply below_drew1 | refine below_set ?_ GE102.out) | exact HB.out)⟩
                 ·replace c45 := Bool.eq_false_iff.mpr c45
                  subst c45
                  have H1 : (if x7_1 < t104 then (some 1) else (if (wrap64 ((wrap64 (x7_1 - t104)) + t105)) > 8 then (some 1) else (rung_code.l0 kj38 l1 l2 (wrap64 (x7_1 + (wrap64 (t105 - t104)))) l0 (l0.length : Int) (wrap64 (x19_1 + 1))))) = some r := by rw [if_neg (show ¬ (false = true) by decide)] at H; exact H
                  clear H
                  have H := H1
                  clear H1
                  by_cases c46 : x7_1 < t104
                  ·rw [if_pos c46] at H
                   have c46b0 : decide (x7_1 < t104) = true := decide_eq_true c46
                   clear c46
                   obtain rfl := Option.some.inj H
                   go_wp2
                   go_ret
                   exact ⟨by first | rfl | (simp [errW_none, errW_some] <;> rfl) | (simp [*, errW_none, errW_some] <;> rfl), by repeat (first | (with_reducible first | exact HB.out | apply below_alloc | apply pw_below_drewN | apply below_drew1 | refine below_set ?_ GE102.out) | exact HB.out)⟩
                  ·rw [if_neg c46] at H
                   have c46b0 : decide (x7_1 < t104) = false := decide_eq_false c46
                   clear c46
                   by_cases c47 : (wrap64 ((wrap64 (x7_1 - t104)) + t105)) > 8
                   ·rw [if_pos c47] at H
                    have c47b0 : decide (8 < (wrap64 ((wrap64 (x7_1 - t104)) + t105))) = true := decide_eq_true c47
                    clear c47
                    obtain rfl := Option.some.inj H
                    go_wp2
                    go_ret
                    exact ⟨by first | rfl | (simp [errW_none, errW_some] <;> rfl) | (simp [*, errW_none, errW_some] <;> rfl), by repeat (first | (with_reducible first | exact HB.out | apply below_alloc | apply pw_below_drewN | apply below_drew1 | refine below_set ?_ GE102.out) | exact HB.out)⟩
                   ·rw [if_neg c47] at H
                    have c47b0 : decide (8 < (wrap64 ((wrap64 (x7_1 - t104)) + t105))) = false := decide_eq_false c47
                    clear c47
                    have H' := Aside0.mk H
                    clear H
                    go_wp2
                    go_roundg kj38
                    case measure => have := HK1.out; have := HJ8.out; have := HJ26.out; have := HJ30.out; have := HJ38.out; omega
                    case rel => exact ⟨(wrap64 (x7_1 + (wrap64 (t105 - t104)))), (wrap64 (x19_1 + 1)), (by first | rfl | (simp; done) | (simp [*]; done)), (by first | rfl | (simp; done) | (simp [*]; done)), H', ⟨by have := HK1.out; have := HJ8.out; have := HJ26.out; have := HJ30.out; have := HJ38.out; omega⟩, ⟨by repeat (first | (with_reducible first | exact HB.out | apply below_alloc | apply pw_below_drewN | apply below_drew1 | refine below_set ?_ GE102.out) | exact HB.out)⟩⟩
      ·rw [if_neg c7] at H
       exact absurd H (by simp)
     ·rw [if_neg c6] at H
      exact absurd H (by simp)
    ·rw [if_neg c5] at H
     have c5b0 : decide (x19_1 < (l0.length : Int)) = false := decide_eq_false c5
     clear c5
     by_cases c48 : x7_1 = 1
     ·rw [if_pos c48] at H
      have c48b0 : (x7_1 == 1) = true := beq_iff_eq.mpr c48
      have c48b1 : (x7_1 != 1) = false := bne_eq_false_iff_eq.mpr c48
      clear c48
      obtain rfl := Option.some.inj H
      go_wp2
      go_ret
      exact ⟨by first | rfl | (simp [errW_none, errW_some] <;> rfl) | (simp [*, errW_none, errW_some] <;> rfl), by repeat (first | (with_reducible first | exact HB.out | apply below_alloc | apply pw_below_drewN | apply below_drew1) | exact HB.out)⟩
     ·rw [if_neg c48] at H
      have c48b0 : (x7_1 == 1) = false := beq_eq_false_iff_ne.mpr c48
      have c48b1 : (x7_1 != 1) = true := bne_iff_ne.mpr c48
      obtain rfl := Option.some.inj H
      go_wp2
      go_ret
      exact ⟨by first | rfl | (simp [errW_none, errW_some] <;> rfl) | (simp [*, errW_none, errW_some] <;> rfl), by repeat (first | (with_reducible first | exact HB.out | apply below_alloc | apply pw_below_drewN | apply below_drew1) | exact HB.out)⟩
end Go.Proofs.YtiaccdaeomaogaaDoor.F
