/- Texts of one claim, slimmed and merged by slim.py. -/
import Derived.Shelf.Small.Strs
import Derived.Shelf.Utf8.RuneCount
import Derived.Shelf.Strings.Search1
import Derived.Shelf.Sort.Plain
import Derived.Shelf.Strings.RuneCount
import Derived.Shelf.Bits.Mul64
import Derived.Shelf.Slices.CompactS
import Derived.Shelf.Slices.Cells
import Derived.Shelf.Slices.In.SortNone
import Derived.Shelf.SlicesE.Clone
import Derived.Test.YtiaccdaeomaogaaDoorProg
import Derived.Shelf.Unicode.ValidAny
import Derived.Lib.OthersKept
import Derived.Lib.TrimU
import Derived.Test.YtiaccdaeomaogaaDoorB2
namespace Go.Proofs.YtiaccdaeomaogaaDoor.F
open Go.RowKit Go.Proofs.YtiaccdaeomaogaaDoorW.PrintWords Go.Proofs.YtiaccdaeomaogaaDoorW.PrintLast Go.Proofs.YtiaccdaeomaogaaDoorW.PrintMore
attribute [local go_sem] max2_int min2_int max_two min_two max_three min_three max_four min_four   -- for this text's walks alone
set_option linter.unusedVariables false
set_option linter.unusedSimpArgs false
mutual
def malthouseref02_Weight.j0 : Nat → Int → Bool → Int → Int → ByteArray → List (S34) → Option (Int)
  | 0, _, _, _, _, _, _ => none
  | k + 1, x1, x16, x102000, x102001, x102002, x102003 => if x16 = true then (some 0) else (malthouseref02_Weight.l0 k (wrap64 (x1 - 1)) 0 x102000 x102001 x102002 x102003)
def malthouseref02_Weight.l0 : Nat → Int → Int → Int → Int → ByteArray → List (S34) → Option (Int)
  | 0, _, _, _, _, _, _ => none
  | k + 1, x1, x5, x102000, x102001, x102002, x102003 => if x5 < (x102003.length : Int) then (if x1 > 0 then (if 0 ≤ x5 then ((malthouseref02_Weight.f k ((rd_T34 x102003 x5).f0) ((rd_T34 x102003 x5).f1) ((rd_T34 x102003 x5).f2) ((rd_T34 x102003 x5).f3) x1).bind fun t103 => (malthouseref02_Weight.l0 k t103 (wrap64 (x5 + 1)) x102000 x102001 x102002 x102003)) else (none)) else (if x1 < 0 then (some 0) else (some x1))) else (if x1 < 0 then (some 0) else (some x1))
def malthouseref02_Weight.f : Nat → Int → Int → ByteArray → List (S34) → Int → Option (Int)
  | 0, _, _, _, _, _ => none
  | k + 1, a0_0, a0_1, a0_2, l0_3, a1 => if (l0_3.length : Int) > a1 then (malthouseref02_Weight.j0 k a1 true a0_0 a0_1 a0_2 l0_3) else (malthouseref02_Weight.j0 k a1 (decide ((a0_2.size : Int) > 200)) a0_0 a0_1 a0_2 l0_3)
end
theorem malthouseref02_Weight.mono_l : ∀ k, (∀ y0 y1 y2 y3 y4, LeO (malthouseref02_Weight.f k y0 y1 y2 y3 y4) (malthouseref02_Weight.f (k + 1) y0 y1 y2 y3 y4)) ∧ (∀ y0 y1 y2 y3 y4 y5, LeO (malthouseref02_Weight.j0 k y0 y1 y2 y3 y4 y5) (malthouseref02_Weight.j0 (k + 1) y0 y1 y2 y3 y4 y5)) ∧ (∀ y0 y1 y2 y3 y4 y5, LeO (malthouseref02_Weight.l0 k y0 y1 y2 y3 y4 y5) (malthouseref02_Weight.l0 (k + 1) y0 y1 y2 y3 y4 y5))
  | 0 => ⟨fun _ _ _ _ _ r h => by simp [malthouseref02_Weight.f] at h, fun _ _ _ _ _ _ r h => by simp [malthouseref02_Weight.j0] at h, fun _ _ _ _ _ _ r h => by simp [malthouseref02_Weight.l0] at h⟩
  | k + 1 => by
    obtain ⟨ih0, ih1, ih2⟩ := malthouseref02_Weight.mono_l k
    refine ⟨?_, ?_, ?_⟩
    · intro y0 y1 y2 y3 y4
      unfold malthouseref02_Weight.f
      repeat' first
      | (with_reducible exact ih0 _ _ _ _ _)
      | (with_reducible exact ih1 _ _ _ _ _ _)
      | (with_reducible exact ih2 _ _ _ _ _ _)
      | (with_reducible exact LeO.refl _)
      | (with_reducible exact LeO.none _)
      | (with_reducible refine LeO.ite ?_ ?_)
      | (with_reducible refine LeO.bind ?_ (fun _ => ?_))
      | exact ih0 _ _ _ _ _
      | exact ih1 _ _ _ _ _ _
      | exact ih2 _ _ _ _ _ _
      | exact LeO.none _
      | refine LeO.ite ?_ ?_
      | refine LeO.bind ?_ (fun _ => ?_)
    · intro y0 y1 y2 y3 y4 y5
      unfold malthouseref02_Weight.j0
      repeat' first
      | (with_reducible exact ih0 _ _ _ _ _)
      | (with_reducible exact ih1 _ _ _ _ _ _)
      | (with_reducible exact ih2 _ _ _ _ _ _)
      | (with_reducible exact LeO.refl _)
      | (with_reducible exact LeO.none _)
      | (with_reducible refine LeO.ite ?_ ?_)
      | (with_reducible refine LeO.bind ?_ (fun _ => ?_))
      | exact ih0 _ _ _ _ _
      | exact ih1 _ _ _ _ _ _
      | exact ih2 _ _ _ _ _ _
      | exact LeO.none _
      | refine LeO.ite ?_ ?_
      | refine LeO.bind ?_ (fun _ => ?_)
    · intro y0 y1 y2 y3 y4 y5
      unfold malthouseref02_Weight.l0
      repeat' first
      | (with_reducible exact ih0 _ _ _ _ _)
      | (with_reducible exact ih1 _ _ _ _ _ _)
      | (with_reducible exact ih2 _ _ _ _ _ _)
      | (with_reducible exact LeO.refl _)
      | (with_reducible exact LeO.none _)
      | (with_reducible refine LeO.ite ?_ ?_)
      | (with_reducible refine LeO.bind ?_ (fun _ => ?_))
      | exact ih0 _ _ _ _ _
      | exact ih1 _ _ _ _ _ _
      | exact ih2 _ _ _ _ _ _
      | exact LeO.none _
      | refine LeO.ite ?_ ?_
      | refine LeO.bind ?_ (fun _ => ?_)
theorem malthouseref02_Weight.mono : ∀ a0 a1 a2 a3 a4 k, LeO (malthouseref02_Weight.f k a0 a1 a2 a3 a4) (malthouseref02_Weight.f (k + 1) a0 a1 a2 a3 a4) := by
  intro a0 a1 a2 a3 a4 k
  obtain ⟨ih0, ih1, ih2⟩ := malthouseref02_Weight.mono_l k
  exact ih0 a0 a1 a2 a3 a4
set_option maxHeartbeats 8000000 in
set_option maxRecDepth 100000 in
theorem malthouseref02_Weight.calls (k : Nat) : ∀ (a0_0 : Int) (a0_1 : Int) (a0_2 : ByteArray) (A0_3 : Option Addr) (c0_3 : Nat) (l0_3 : List (S34)) (a1 : Int) (r : Int) (w : World) (hr0_3 : Kd.C k34 w A0_3 l0_3.length l0_3) (hc0_3 : l0_3.length ≤ c0_3) (h : malthouseref02_Weight.f k a0_0 a0_1 a0_2 l0_3 a1 = some r),
    Calls Tryd.prog 28 #[.agg #[.int .i64 a0_0, .int .i64 a0_1, .string a0_2, .slice A0_3 l0_3.length c0_3], .int .i64 a1] w fun e w' => e = .returned (.int .i64 r) ∧ Below w.heap.size w w' := by
  induction k using Nat.strongRecOn with
  | _ k ih =>
  intro a0_0 a0_1 a0_2 A0_3 c0_3 l0_3 a1 r w hr0_3 hc0_3 h
  cases k with
  | zero => exact absurd h (by simp [malthouseref02_Weight.f])
  | succ k =>
  simp only [malthouseref02_Weight.f] at h
  have hu34 := Tryd.underlying34
  have HR0_3 := Aside0.mk hr0_3
  have HC0_3 := Aside0.mk hc0_3
  clear hr0_3 hc0_3
  have HB := Aside0.mk (Below.refl w.heap.size w)
  have H : (if (l0_3.length : Int) > a1 then (malthouseref02_Weight.j0 k a1 true a0_0 a0_1 a0_2 l0_3) else (malthouseref02_Weight.j0 k a1 (decide ((a0_2.size : Int) > 200)) a0_0 a0_1 a0_2 l0_3)) = some r := h
  clear h
  have HC3 := Aside0.mk H
  clear H
  go_enter Tryd.func28, Tryd.ntmps28
  go_upto_region 1 with (first | ((with_reducible refine gate_dst (N := 2) rfl ?_); (try (refine gate_guard (by rfl) ?_; dsimp only)); refine box_event ?hg (N := 2) ?hd (cs := #[.int .i64 a0_0, .int .i64 a0_1, .string a0_2, .slice A0_3 l0_3.length c0_3]) (t := 34) ?hr ?_; (case hd => rfl); (case hg => rfl); (case hr => first | (go_simp; done) | (go_simp; rfl)); intro gb101 hg w4 hbox hb; have n0_ := qs hb; have n1_ := Aside0.mk (hbox); have n2_ := Aside0.mk ((by rw [hg]; exact (below_size qb) : w.heap.size ≤ gb101)); have n3_ := Aside0.mk ((by rw [hg]; exact (below_size qb) : w.heap.size ≤ gb101)); clear HB; have HB := n0_; have BK101 := n1_; have GW101 := n2_; have GE101 := n3_; clear n0_ n1_ n2_ n3_; clear hb hbox hg))
  (try simp only [Act.put, List.setIfInBounds_toArray, List.set_cons_zero, List.set_cons_succ])
  go_cut [16] (fun v16 wc => ∃ (kq : Nat) (x16_2 : Bool), v16 = .bool x16_2 ∧ Aside0 (malthouseref02_Weight.j0 kq a1 x16_2 a0_0 a0_1 a0_2 l0_3 = some r) ∧ Aside0 (kq ≤ k) ∧ Aside0 (wc.heap[gb101]? = some (.cells #[.int .i64 a0_0, .int .i64 a0_1, .string a0_2, (.slice A0_3 l0_3.length c0_3)] 34 (0, 0))) ∧ Aside0 (Below w.heap.size w wc))
  case first =>
    have H := HC3.out
    clear HC3
    by_cases c5 : (l0_3.length : Int) > a1
    · rw [if_pos c5] at H
      have c5b0 : decide (a1 < (l0_3.length : Int)) = true := decide_eq_true c5
      clear c5
      (first | rw [c5b0] | (simp only [i64_w, i32_w]; rw [c5b0]) | skip)
      have H' := Aside0.mk H
      clear H
      obtain ⟨_, _, _, _, _, _, _, _⟩ := q4 BK101.out
      go_wp2
      go_meet
      case rel => exact ⟨_, (true), qv, H', ql, qk, qB⟩
    · rw [if_neg c5] at H
      have c5b0 : decide (a1 < (l0_3.length : Int)) = false := decide_eq_false c5
      clear c5
      (first | rw [c5b0] | (simp only [i64_w, i32_w]; rw [c5b0]) | skip)
      have H' := Aside0.mk H
      clear H
      obtain ⟨_, _, _, _, _, _, _, _⟩ := q4 BK101.out
      go_wp2
      go_meet
      case rel => exact ⟨_, (decide ((a0_2.size : Int) > 200)), qv, H', ql, qk, qB⟩
  case rest =>
    clear HC3
    obtain ⟨kq, x16_2, rfl, HA, HJ2, BK101, HB⟩ := hcut
    cases kq with
    | zero => exact absurd HA.out (by simp [malthouseref02_Weight.j0])
    | succ kj2 =>
      have H := HA.out
      clear HA
      simp only [malthouseref02_Weight.j0] at H
      by_cases c8 : x16_2 = true
      · subst c8
        rw [if_pos rfl] at H
        obtain rfl := Option.some.inj H
        go_wp2
        go_ret
        exact qr
      · replace c8 := Bool.eq_false_iff.mpr c8
        subst c8
        rw [if_neg qf] at H
        have H' := Aside0.mk H
        clear H
        go_wp2
        go_loopg [1, 5] kj2 (fun kq v1 v5 w' => ∃ (x1_2 : Int) (x5_2 : Int), v1 = .int .i64 x1_2 ∧ v5 = .int .i64 x5_2 ∧ Aside0 (malthouseref02_Weight.l0 kq x1_2 x5_2 a0_0 a0_1 a0_2 l0_3 = some r) ∧ Aside0 (kq ≤ kj2) ∧ Aside0 (w'.heap[gb101]? = some (.cells #[.int .i64 a0_0, .int .i64 a0_1, .string a0_2, (.slice A0_3 l0_3.length c0_3)] 34 (0, 0))) ∧ Aside0 (Below w.heap.size w w'))
        case atStart => exact ⟨(wrap64 (a1 - 1)), (0), qv, qv, H', ⟨Nat.le_refl _⟩, qk, qB⟩
        case round =>
          clear H'
          obtain ⟨x1_2, x5_2, rfl, rfl, HA, HK2, BK101, HB⟩ := hrel
          cases gk with
          | zero => exact absurd HA.out (by simp [malthouseref02_Weight.l0])
          | succ k2 =>
            have H := HA.out
            clear HA
            simp only [malthouseref02_Weight.l0] at H
            by_cases c9 : x5_2 < (l0_3.length : Int)
            · rw [if_pos c9] at H
              have c9b0 : decide (x5_2 < (l0_3.length : Int)) = true := decide_eq_true c9
              clear c9
              by_cases c10 : x1_2 > 0
              · rw [if_pos c10] at H
                have c10b0 : decide (0 < x1_2) = true := decide_eq_true c10
                clear c10
                by_cases c11 : 0 ≤ x5_2
                · rw [if_pos c11] at H
                  have c11b0 : decide (0 ≤ x5_2) = true := decide_eq_true c11
                  clear c11
                  replace H := qi H
                  obtain ⟨t103, A12, H⟩ := H
                  have H' := Aside0.mk H
                  clear H
                  obtain ⟨_, _, _, _, _, _, _, _⟩ := q4 BK101.out
                  have p102 : 0 ≤ (x5_2 : Int) := qa
                  have q102 : x5_2 < (l0_3.length : Int) := qa
                  obtain ⟨ad102, A102_3, c102_3, e102, hx102_0, hx102_1, hx102_2, hx102_3, hl102_3, hi102_3⟩ := at_T34 HR0_3.out x5_2 p102 q102
                  cases e102
                  replace hx102_0 := qc HB.out hx102_0
                  replace hx102_1 := qc HB.out hx102_1
                  replace hx102_2 := qc HB.out hx102_2
                  replace hx102_3 := qc HB.out hx102_3
                  have HR102_3 := Aside0.mk hi102_3
                  have HC102_3 := Aside0.mk hl102_3
                  clear hi102_3 hl102_3
                  replace p102 := eq_true p102
                  replace q102 := eq_true q102
                  go_wp2_with (first | ((with_reducible refine gate_callee (f := 28) rfl ?_); refine goesL_ (some 36) rfl rfl Tryd.func28 (by kernel_rfl) rfl #[.agg #[.int .i64 ((rd_T34 l0_3 x5_2).f0), .int .i64 ((rd_T34 l0_3 x5_2).f1), .string ((rd_T34 l0_3 x5_2).f2), .slice A102_3 ((rd_T34 l0_3 x5_2).f3).length c102_3], .int .i64 x1_2] rfl qm ?_; (with_reducible refine (ih k2 (by have := HJ2.out; have := HK2.out; omega) ((rd_T34 l0_3 x5_2).f0) ((rd_T34 l0_3 x5_2).f1) ((rd_T34 l0_3 x5_2).f2) _ _ ((rd_T34 l0_3 x5_2).f3) x1_2 t103 _ ?side1 ?side2 A12.out).mono ?_); (case side1 => exact qC HR102_3.out); (case side2 => exact HC102_3.out); rintro e w14 ⟨rfl, hb⟩; refine ⟨_, rfl, ?_⟩; have n0_ := qn (g := gb101) hb; have n1_ := qs hb; clear BK101; clear HB; have BK101 := n0_; have HB := n1_; clear n0_ n1_; (try clear hb)))
                  go_roundg k2
                  case measure => have := HJ2.out; have := HK2.out; omega
                  case rel => exact ⟨(t103), (wrap64 (x5_2 + 1)), qv, qv, H', ⟨by have := HJ2.out; have := HK2.out; omega⟩, qk, qB⟩
                · rw [if_neg c11] at H
                  exact absurd H (by simp)
              · rw [if_neg c10] at H
                have c10b0 : decide (0 < x1_2) = false := decide_eq_false c10
                clear c10
                by_cases c15 : x1_2 < 0
                · rw [if_pos c15] at H
                  have c15b0 : decide (x1_2 < 0) = true := decide_eq_true c15
                  clear c15
                  obtain rfl := Option.some.inj H
                  obtain ⟨_, _, _, _, _, _, _, _⟩ := q4 BK101.out
                  go_wp2
                  go_ret
                  exact qr
                · rw [if_neg c15] at H
                  have c15b0 : decide (x1_2 < 0) = false := decide_eq_false c15
                  clear c15
                  obtain rfl := Option.some.inj H
                  obtain ⟨_, _, _, _, _, _, _, _⟩ := q4 BK101.out
                  go_wp2
                  go_ret
                  exact qr
            · rw [if_neg c9] at H
              have c9b0 : decide (x5_2 < (l0_3.length : Int)) = false := decide_eq_false c9
              clear c9
              by_cases c18 : x1_2 < 0
              · rw [if_pos c18] at H
                have c18b0 : decide (x1_2 < 0) = true := decide_eq_true c18
                clear c18
                obtain rfl := Option.some.inj H
                obtain ⟨_, _, _, _, _, _, _, _⟩ := q4 BK101.out
                go_wp2
                go_ret
                exact qr
              · rw [if_neg c18] at H
                have c18b0 : decide (x1_2 < 0) = false := decide_eq_false c18
                clear c18
                obtain rfl := Option.some.inj H
                obtain ⟨_, _, _, _, _, _, _, _⟩ := q4 BK101.out
                go_wp2
                go_ret
                exact qr
mutual
def expr_line.j0 : Nat → Int → Bool → Option (Int)
  | 0, _, _ => none
  | k + 1, x0, x9 => if x9 = true then (some 3) else (if x0 = 4 then (expr_line.j1 k x0 (x0 == 4)) else (expr_line.j1 k x0 (x0 == 5)))
def expr_line.j1 : Nat → Int → Bool → Option (Int)
  | 0, _, _ => none
  | k + 1, x0, x16 => if x16 = true then (some 4) else (if x0 ≥ 6 then (if x0 ≤ 8 then (some 5) else (some 6)) else (some 6))
end
def expr_line.f (k : Nat) (a0 : Int) : Option (Int) := if a0 = 16 then (some 1) else (if a0 = 15 then (some 2) else (if a0 ≥ 9 then (expr_line.j0 k a0 (decide (a0 ≤ 14))) else (expr_line.j0 k a0 false)))
theorem expr_line.mono_l : ∀ k, (∀ y0 y1, LeO (expr_line.j0 k y0 y1) (expr_line.j0 (k + 1) y0 y1)) ∧ (∀ y0 y1, LeO (expr_line.j1 k y0 y1) (expr_line.j1 (k + 1) y0 y1))
  | 0 => ⟨fun _ _ r h => by simp [expr_line.j0] at h, fun _ _ r h => by simp [expr_line.j1] at h⟩
  | k + 1 => by
    obtain ⟨ih0, ih1⟩ := expr_line.mono_l k
    refine ⟨?_, ?_⟩
    · intro y0 y1
      unfold expr_line.j0
      repeat' first
      | (with_reducible exact ih0 _ _)
      | (with_reducible exact ih1 _ _)
      | (with_reducible exact LeO.refl _)
      | (with_reducible exact LeO.none _)
      | (with_reducible refine LeO.ite ?_ ?_)
      | (with_reducible refine LeO.bind ?_ (fun _ => ?_))
      | exact ih0 _ _
      | exact ih1 _ _
      | exact LeO.none _
      | refine LeO.ite ?_ ?_
      | refine LeO.bind ?_ (fun _ => ?_)
    · intro y0 y1
      unfold expr_line.j1
      repeat' first
      | (with_reducible exact ih0 _ _)
      | (with_reducible exact ih1 _ _)
      | (with_reducible exact LeO.refl _)
      | (with_reducible exact LeO.none _)
      | (with_reducible refine LeO.ite ?_ ?_)
      | (with_reducible refine LeO.bind ?_ (fun _ => ?_))
      | exact ih0 _ _
      | exact ih1 _ _
      | exact LeO.none _
      | refine LeO.ite ?_ ?_
      | refine LeO.bind ?_ (fun _ => ?_)
theorem expr_line.mono : ∀ a0 k, LeO (expr_line.f k a0) (expr_line.f (k + 1) a0) := by
  intro a0 k
  obtain ⟨ih0, ih1⟩ := expr_line.mono_l k
  unfold expr_line.f
  repeat' first
      | (with_reducible exact ih0 _ _)
      | (with_reducible exact ih1 _ _)
      | (with_reducible exact LeO.refl _)
      | (with_reducible exact LeO.none _)
      | (with_reducible refine LeO.ite ?_ ?_)
      | (with_reducible refine LeO.bind ?_ (fun _ => ?_))
      | exact ih0 _ _
      | exact ih1 _ _
      | exact LeO.none _
      | refine LeO.ite ?_ ?_
      | refine LeO.bind ?_ (fun _ => ?_)
set_option maxHeartbeats 8000000 in
set_option maxRecDepth 100000 in
theorem expr_line.calls (k : Nat) (a0 : Int) (r : Int) (w : World) (h : expr_line.f k a0 = some r) :
  Calls Tryd.prog 129 #[.int .i64 a0] w fun e w' => e = .returned (.int .i64 r) ∧ Drawn0 w w' := by
 have H : (if a0 = 16 then (some 1) else (if a0 = 15 then (some 2) else (if a0 ≥ 9 then (expr_line.j0 k a0 (decide (a0 ≤ 14))) else (expr_line.j0 k a0 false)))) = some r := h
 clear h
 by_cases c2 : a0 = 16
 ·rw [if_pos c2] at H
  obtain ⟨c2b0, c2b1⟩ := qe c2
  clear c2
  obtain rfl := Option.some.inj H
  go_enter Tryd.func129, Tryd.ntmps129
  go_wp2
  go_ret
  exact ⟨by first | rfl | (simp; done) | (simp [*]; done), by repeat (first | exact Drawn0.refl _ | apply Drawn0.step)⟩
 ·rw [if_neg c2] at H
  obtain ⟨c2b0, c2b1⟩ := qd c2
  by_cases c3 : a0 = 15
  ·rw [if_pos c3] at H
   obtain ⟨c3b0, c3b1⟩ := qe c3
   clear c3
   obtain rfl := Option.some.inj H
   go_enter Tryd.func129, Tryd.ntmps129
   go_wp2
   go_ret
   exact ⟨by first | rfl | (simp; done) | (simp [*]; done), by repeat (first | exact Drawn0.refl _ | apply Drawn0.step)⟩
  ·rw [if_neg c3] at H
   obtain ⟨c3b0, c3b1⟩ := qd c3
   have HC4 := Aside0.mk H
   clear H
   go_enter Tryd.func129, Tryd.ntmps129
   go_upto_region 5 with (fail)
   go_cut [9] (fun v9 wc => ∃ (kq : Nat) (x9_3 : Bool), v9 = .bool x9_3 ∧ Aside0 (expr_line.j0 kq a0 x9_3 = some r) ∧ Aside0 (kq ≤ k) ∧ Drawn0 w wc)
   case first =>
    have H := HC4.out
    clear HC4
    by_cases c5 : a0 ≥ 9
    ·rw [if_pos c5] at H
     have c5b0 : decide (9 ≤ a0) = true := decide_eq_true c5
     clear c5
     (first | rw [c5b0] | (simp only [i64_w, i32_w]; rw [c5b0]) | skip)
     have H' := Aside0.mk H
     clear H
     go_wp2
     go_meet
     case rel => exact ⟨_, (decide (a0 ≤ 14)), qv, H', ql, by repeat (first | exact Drawn0.refl _ | apply Drawn0.step)⟩
    ·rw [if_neg c5] at H
     have c5b0 : decide (9 ≤ a0) = false := decide_eq_false c5
     clear c5
     (first | rw [c5b0] | (simp only [i64_w, i32_w]; rw [c5b0]) | skip)
     have H' := Aside0.mk H
     clear H
     go_wp2
     go_meet
     case rel => exact ⟨_, (false), qv, H', ql, by repeat (first | exact Drawn0.refl _ | apply Drawn0.step)⟩
   case rest =>
    clear HC4
    obtain ⟨kq, x9_3, rfl, HA, HJ3, ⟨mc3, rfl⟩⟩ := hcut
    cases kq with
    | zero => exact absurd HA.out (by simp [expr_line.j0])
    | succ kj3 =>
     have H := HA.out
     clear HA
     simp only [expr_line.j0] at H
     by_cases c6 : x9_3 = true
     ·subst c6
      rw [if_pos rfl] at H
      obtain rfl := Option.some.inj H
      go_wp2
      go_ret
      exact ⟨by first | rfl | (simp; done) | (simp [*]; done), by repeat (first | exact Drawn0.refl _ | apply Drawn0.step)⟩
     ·replace c6 := Bool.eq_false_iff.mpr c6
      subst c6
      rw [if_neg qf] at H
      have HC7 := Aside0.mk H
      clear H
      go_upto_if 16 with (fail)
      go_cut [16] (fun v16 wc => ∃ (kq : Nat) (x16_6 : Bool), v16 = .bool x16_6 ∧ Aside0 (expr_line.j1 kq a0 x16_6 = some r) ∧ Aside0 (kq ≤ kj3) ∧ Drawn0 w wc)
      case first =>
       have H := HC7.out
       clear HC7
       by_cases c8 : a0 = 4
       ·rw [if_pos c8] at H
        obtain ⟨c8b0, c8b1⟩ := qe c8
        clear c8
        (first | rw [c8b0] | (simp only [i64_w, i32_w]; rw [c8b0]) | skip)
        have H' := Aside0.mk H
        clear H
        go_wp2
        go_meet
        case rel => exact ⟨_, ((a0 == 4)), qv, H', ⟨by have := HJ3.out; first | omega | exact Nat.le_refl _⟩, by repeat (first | exact Drawn0.refl _ | apply Drawn0.step)⟩
       ·rw [if_neg c8] at H
        obtain ⟨c8b0, c8b1⟩ := qd c8
        (first | rw [c8b0] | (simp only [i64_w, i32_w]; rw [c8b0]) | skip)
        have H' := Aside0.mk H
        clear H
        go_wp2
        go_meet
        case rel => exact ⟨_, ((a0 == 5)), qv, H', ⟨by have := HJ3.out; first | omega | exact Nat.le_refl _⟩, by repeat (first | exact Drawn0.refl _ | apply Drawn0.step)⟩
      case rest =>
       clear HC7
       obtain ⟨kq, x16_6, rfl, HA, HJ6, ⟨mc6, rfl⟩⟩ := hcut
       cases kq with
       | zero => exact absurd HA.out (by simp [expr_line.j1])
       | succ kj6 =>
        have H := HA.out
        clear HA
        simp only [expr_line.j1] at H
        by_cases c9 : x16_6 = true
        ·subst c9
         rw [if_pos rfl] at H
         obtain rfl := Option.some.inj H
         go_wp2
         go_ret
         exact ⟨by first | rfl | (simp; done) | (simp [*]; done), by repeat (first | exact Drawn0.refl _ | apply Drawn0.step)⟩
        ·replace c9 := Bool.eq_false_iff.mpr c9
         subst c9
         rw [if_neg qf] at H
         by_cases c10 : a0 ≥ 6
         ·rw [if_pos c10] at H
          have c10b0 : decide (6 ≤ a0) = true := decide_eq_true c10
          clear c10
          by_cases c11 : a0 ≤ 8
          ·rw [if_pos c11] at H
           have c11b0 : decide (a0 ≤ 8) = true := decide_eq_true c11
           clear c11
           obtain rfl := Option.some.inj H
           go_wp2
           go_ret
           exact ⟨by first | rfl | (simp; done) | (simp [*]; done), by repeat (first | exact Drawn0.refl _ | apply Drawn0.step)⟩
          ·rw [if_neg c11] at H
           have c11b0 : decide (a0 ≤ 8) = false := decide_eq_false c11
           clear c11
           obtain rfl := Option.some.inj H
           go_wp2
           go_ret
           exact ⟨by first | rfl | (simp; done) | (simp [*]; done), by repeat (first | exact Drawn0.refl _ | apply Drawn0.step)⟩
         ·rw [if_neg c10] at H
          have c10b0 : decide (6 ≤ a0) = false := decide_eq_false c10
          clear c10
          obtain rfl := Option.some.inj H
          go_wp2
          go_ret
          exact ⟨by first | rfl | (simp; done) | (simp [*]; done), by repeat (first | exact Drawn0.refl _ | apply Drawn0.step)⟩
def expr_wrapped.f (k : Nat) (a0_0 : Int) (a0_1 : Int) (a0_2 : ByteArray) (l0_3 : List (S34)) (a1 : Int) : Option (Bool) := (expr_line.f k a0_0).bind fun t102 => (if 0 ≤ a1 then (if a1 < (l0_3.length : Int) then ((expr_line.f k ((rd_T34 l0_3 a1).f0)).bind fun t104 => (if t104 < t102 then (some true) else (if t104 = t102 then (if t102 < 6 then (if a1 = 1 then (some true) else (some (t102 == 3))) else (some false)) else (some false)))) else (none)) else (none))
theorem expr_wrapped.mono : ∀ a0 a1 a2 a3 a4 k, LeO (expr_wrapped.f k a0 a1 a2 a3 a4) (expr_wrapped.f (k + 1) a0 a1 a2 a3 a4) := by
  intro a0 a1 a2 a3 a4 k
  unfold expr_wrapped.f
  repeat' first
      | (with_reducible exact expr_line.mono _ _)
      | (with_reducible exact LeO.refl _)
      | (with_reducible exact LeO.none _)
      | (with_reducible refine LeO.ite ?_ ?_)
      | (with_reducible refine LeO.bind ?_ (fun _ => ?_))
      | exact expr_line.mono _ _
      | exact LeO.none _
      | refine LeO.ite ?_ ?_
      | refine LeO.bind ?_ (fun _ => ?_)
set_option maxHeartbeats 8000000 in
set_option maxRecDepth 100000 in
theorem expr_wrapped.calls (k : Nat) (a0_0 : Int) (a0_1 : Int) (a0_2 : ByteArray) (A0_3 : Option Addr) (c0_3 : Nat) (l0_3 : List (S34)) (a1 : Int) (r : Bool) (w : World) (hr0_3 : Kd.C k34 w A0_3 l0_3.length l0_3) (hc0_3 : l0_3.length ≤ c0_3) (h : expr_wrapped.f k a0_0 a0_1 a0_2 l0_3 a1 = some r) :
  Calls Tryd.prog 96 #[.agg #[.int .i64 a0_0, .int .i64 a0_1, .string a0_2, .slice A0_3 l0_3.length c0_3], .int .i64 a1] w fun e w' => e = .returned (.bool r) ∧ Below w.heap.size w w' := by
 have hu34 := Tryd.underlying34
 have HR0_3 := Aside0.mk hr0_3
 have HC0_3 := Aside0.mk hc0_3
 clear hr0_3 hc0_3
 have HB := Aside0.mk (Below.refl w.heap.size w)
 have H : ((expr_line.f k a0_0).bind fun t102 => (if 0 ≤ a1 then (if a1 < (l0_3.length : Int) then ((expr_line.f k ((rd_T34 l0_3 a1).f0)).bind fun t104 => (if t104 < t102 then (some true) else (if t104 = t102 then (if t102 < 6 then (if a1 = 1 then (some true) else (some (t102 == 3))) else (some false)) else (some false)))) else (none)) else (none))) = some r := h
 clear h
 replace H := qi H
 obtain ⟨t102, A3, H⟩ := H
 by_cases c4 : 0 ≤ a1
 ·rw [if_pos c4] at H
  have c4b0 : decide (0 ≤ a1) = true := decide_eq_true c4
  clear c4
  by_cases c5 : a1 < (l0_3.length : Int)
  ·rw [if_pos c5] at H
   have c5b0 : decide (a1 < (l0_3.length : Int)) = true := decide_eq_true c5
   clear c5
   replace H := qi H
   obtain ⟨t104, A6, H⟩ := H
   by_cases c7 : t104 < t102
   ·rw [if_pos c7] at H
    have c7b0 : decide (t104 < t102) = true := decide_eq_true c7
    clear c7
    obtain rfl := Option.some.inj H
    go_enter Tryd.func96, Tryd.ntmps96
    go_wp2_with (first | ((with_reducible refine gate_dst (N := 2) rfl ?_); refine box_event ?hg (N := 2) ?hd (cs := #[.int .i64 a0_0, .int .i64 a0_1, .string a0_2, .slice A0_3 l0_3.length c0_3]) (t := 34) ?hr ?_; (case hd => rfl); (case hg => rfl); (case hr => first | (go_simp; done) | (go_simp; rfl)); intro gb101 hg w8 hbox hb; have n0_ := qs hb; have n1_ := Aside0.mk (hbox); have n2_ := Aside0.mk ((by rw [hg]; exact (below_size qb) : w.heap.size ≤ gb101)); have n3_ := Aside0.mk ((by rw [hg]; exact (below_size qb) : w.heap.size ≤ gb101)); clear HB; have HB := n0_; have BK101 := n1_; have GW101 := n2_; have GE101 := n3_; clear n0_ n1_ n2_ n3_; clear hb hbox hg; obtain ⟨_, _, _, _, _, _, _, _⟩ := q4 BK101.out) | (go_at_call 129; (with_reducible refine (expr_line.calls k a0_0 t102 _ A3.out).mono ?_); rintro e w' ⟨rfl, ⟨nd, rfl⟩⟩; (try first | exact qw | exact ⟨rfl, _, Eq.trans (World.drewN_drewN _ _ _) (congrArg (World.drewN _) (Nat.add_assoc _ _ _))⟩); have p103 : 0 ≤ (a1 : Int) := qa; have q103 : a1 < (l0_3.length : Int) := qa; obtain ⟨ad103, A103_3, c103_3, e103, hx103_0, hx103_1, hx103_2, hx103_3, hl103_3, hi103_3⟩ := at_T34 HR0_3.out a1 p103 q103; cases e103; replace hx103_0 := qc HB.out hx103_0; replace hx103_1 := qc HB.out hx103_1; replace hx103_2 := qc HB.out hx103_2; replace hx103_3 := qc HB.out hx103_3; have HR103_3 := Aside0.mk hi103_3; have HC103_3 := Aside0.mk hl103_3; clear hi103_3 hl103_3; replace p103 := eq_true p103; replace q103 := eq_true q103) | (go_at_call 129; (with_reducible refine (expr_line.calls k ((rd_T34 l0_3 a1).f0) t104 _ A6.out).mono ?_); rintro e w' ⟨rfl, ⟨nd, rfl⟩⟩; (try first | exact qw | exact ⟨rfl, _, Eq.trans (World.drewN_drewN _ _ _) (congrArg (World.drewN _) (Nat.add_assoc _ _ _))⟩)))
    repeat (go_quiet (first | ((with_reducible refine gate_dst (N := 2) rfl ?_); refine box_event ?hg (N := 2) ?hd (cs := #[.int .i64 a0_0, .int .i64 a0_1, .string a0_2, .slice A0_3 l0_3.length c0_3]) (t := 34) ?hr ?_; (case hd => rfl); (case hg => rfl); (case hr => first | (go_simp; done) | (go_simp; rfl)); intro gb101 hg w8 hbox hb; have n0_ := qs hb; have n1_ := Aside0.mk (hbox); have n2_ := Aside0.mk ((by rw [hg]; exact (below_size qb) : w.heap.size ≤ gb101)); have n3_ := Aside0.mk ((by rw [hg]; exact (below_size qb) : w.heap.size ≤ gb101)); clear HB; have HB := n0_; have BK101 := n1_; have GW101 := n2_; have GE101 := n3_; clear n0_ n1_ n2_ n3_; clear hb hbox hg; obtain ⟨_, _, _, _, _, _, _, _⟩ := q4 BK101.out) | (go_at_call 129; (with_reducible refine (expr_line.calls k a0_0 t102 _ A3.out).mono ?_); rintro e w' ⟨rfl, ⟨nd, rfl⟩⟩; (try first | exact qw | exact ⟨rfl, _, Eq.trans (World.drewN_drewN _ _ _) (congrArg (World.drewN _) (Nat.add_assoc _ _ _))⟩); have p103 : 0 ≤ (a1 : Int) := qa; have q103 : a1 < (l0_3.length : Int) := qa; obtain ⟨ad103, A103_3, c103_3, e103, hx103_0, hx103_1, hx103_2, hx103_3, hl103_3, hi103_3⟩ := at_T34 HR0_3.out a1 p103 q103; cases e103; replace hx103_0 := qc HB.out hx103_0; replace hx103_1 := qc HB.out hx103_1; replace hx103_2 := qc HB.out hx103_2; replace hx103_3 := qc HB.out hx103_3; have HR103_3 := Aside0.mk hi103_3; have HC103_3 := Aside0.mk hl103_3; clear hi103_3 hl103_3; replace p103 := eq_true p103; replace q103 := eq_true q103) | (go_at_call 129; (with_reducible refine (expr_line.calls k ((rd_T34 l0_3 a1).f0) t104 _ A6.out).mono ?_); rintro e w' ⟨rfl, ⟨nd, rfl⟩⟩; (try first | exact qw | exact ⟨rfl, _, Eq.trans (World.drewN_drewN _ _ _) (congrArg (World.drewN _) (Nat.add_assoc _ _ _))⟩))); try go_wp2_with (first | ((with_reducible refine gate_dst (N := 2) rfl ?_); refine box_event ?hg (N := 2) ?hd (cs := #[.int .i64 a0_0, .int .i64 a0_1, .string a0_2, .slice A0_3 l0_3.length c0_3]) (t := 34) ?hr ?_; (case hd => rfl); (case hg => rfl); (case hr => first | (go_simp; done) | (go_simp; rfl)); intro gb101 hg w8 hbox hb; have n0_ := qs hb; have n1_ := Aside0.mk (hbox); have n2_ := Aside0.mk ((by rw [hg]; exact (below_size qb) : w.heap.size ≤ gb101)); have n3_ := Aside0.mk ((by rw [hg]; exact (below_size qb) : w.heap.size ≤ gb101)); clear HB; have HB := n0_; have BK101 := n1_; have GW101 := n2_; have GE101 := n3_; clear n0_ n1_ n2_ n3_; clear hb hbox hg; obtain ⟨_, _, _, _, _, _, _, _⟩ := q4 BK101.out) | (go_at_call 129; (with_reducible refine (expr_line.calls k a0_0 t102 _ A3.out).mono ?_); rintro e w' ⟨rfl, ⟨nd, rfl⟩⟩; (try first | exact qw | exact ⟨rfl, _, Eq.trans (World.drewN_drewN _ _ _) (congrArg (World.drewN _) (Nat.add_assoc _ _ _))⟩); have p103 : 0 ≤ (a1 : Int) := qa; have q103 : a1 < (l0_3.length : Int) := qa; obtain ⟨ad103, A103_3, c103_3, e103, hx103_0, hx103_1, hx103_2, hx103_3, hl103_3, hi103_3⟩ := at_T34 HR0_3.out a1 p103 q103; cases e103; replace hx103_0 := qc HB.out hx103_0; replace hx103_1 := qc HB.out hx103_1; replace hx103_2 := qc HB.out hx103_2; replace hx103_3 := qc HB.out hx103_3; have HR103_3 := Aside0.mk hi103_3; have HC103_3 := Aside0.mk hl103_3; clear hi103_3 hl103_3; replace p103 := eq_true p103; replace q103 := eq_true q103) | (go_at_call 129; (with_reducible refine (expr_line.calls k ((rd_T34 l0_3 a1).f0) t104 _ A6.out).mono ?_); rintro e w' ⟨rfl, ⟨nd, rfl⟩⟩; (try first | exact qw | exact ⟨rfl, _, Eq.trans (World.drewN_drewN _ _ _) (congrArg (World.drewN _) (Nat.add_assoc _ _ _))⟩))))
    go_ret
    exact qr
   ·rw [if_neg c7] at H
    have c7b0 : decide (t104 < t102) = false := decide_eq_false c7
    clear c7
    by_cases c10 : t104 = t102
    ·rw [if_pos c10] at H
     obtain ⟨c10b0, c10b1⟩ := qe c10
     clear c10
     by_cases c11 : t102 < 6
     ·rw [if_pos c11] at H
      have c11b0 : decide (t102 < 6) = true := decide_eq_true c11
      clear c11
      by_cases c12 : a1 = 1
      ·rw [if_pos c12] at H
       obtain ⟨c12b0, c12b1⟩ := qe c12
       clear c12
       obtain rfl := Option.some.inj H
       go_enter Tryd.func96, Tryd.ntmps96
       go_wp2_with (first | ((with_reducible refine gate_dst (N := 2) rfl ?_); refine box_event ?hg (N := 2) ?hd (cs := #[.int .i64 a0_0, .int .i64 a0_1, .string a0_2, .slice A0_3 l0_3.length c0_3]) (t := 34) ?hr ?_; (case hd => rfl); (case hg => rfl); (case hr => first | (go_simp; done) | (go_simp; rfl)); intro gb101 hg w13 hbox hb; have n0_ := qs hb; have n1_ := Aside0.mk (hbox); have n2_ := Aside0.mk ((by rw [hg]; exact (below_size qb) : w.heap.size ≤ gb101)); have n3_ := Aside0.mk ((by rw [hg]; exact (below_size qb) : w.heap.size ≤ gb101)); clear HB; have HB := n0_; have BK101 := n1_; have GW101 := n2_; have GE101 := n3_; clear n0_ n1_ n2_ n3_; clear hb hbox hg; obtain ⟨_, _, _, _, _, _, _, _⟩ := q4 BK101.out) | (go_at_call 129; (with_reducible refine (expr_line.calls k a0_0 t102 _ A3.out).mono ?_); rintro e w' ⟨rfl, ⟨nd, rfl⟩⟩; (try first | exact qw | exact ⟨rfl, _, Eq.trans (World.drewN_drewN _ _ _) (congrArg (World.drewN _) (Nat.add_assoc _ _ _))⟩); have p103 : 0 ≤ (a1 : Int) := qa; have q103 : a1 < (l0_3.length : Int) := qa; obtain ⟨ad103, A103_3, c103_3, e103, hx103_0, hx103_1, hx103_2, hx103_3, hl103_3, hi103_3⟩ := at_T34 HR0_3.out a1 p103 q103; cases e103; replace hx103_0 := qc HB.out hx103_0; replace hx103_1 := qc HB.out hx103_1; replace hx103_2 := qc HB.out hx103_2; replace hx103_3 := qc HB.out hx103_3; have HR103_3 := Aside0.mk hi103_3; have HC103_3 := Aside0.mk hl103_3; clear hi103_3 hl103_3; replace p103 := eq_true p103; replace q103 := eq_true q103) | (go_at_call 129; (with_reducible refine (expr_line.calls k ((rd_T34 l0_3 a1).f0) t104 _ A6.out).mono ?_); rintro e w' ⟨rfl, ⟨nd, rfl⟩⟩; (try first | exact qw | exact ⟨rfl, _, Eq.trans (World.drewN_drewN _ _ _) (congrArg (World.drewN _) (Nat.add_assoc _ _ _))⟩)))
       repeat (go_quiet (first | ((with_reducible refine gate_dst (N := 2) rfl ?_); refine box_event ?hg (N := 2) ?hd (cs := #[.int .i64 a0_0, .int .i64 a0_1, .string a0_2, .slice A0_3 l0_3.length c0_3]) (t := 34) ?hr ?_; (case hd => rfl); (case hg => rfl); (case hr => first | (go_simp; done) | (go_simp; rfl)); intro gb101 hg w13 hbox hb; have n0_ := qs hb; have n1_ := Aside0.mk (hbox); have n2_ := Aside0.mk ((by rw [hg]; exact (below_size qb) : w.heap.size ≤ gb101)); have n3_ := Aside0.mk ((by rw [hg]; exact (below_size qb) : w.heap.size ≤ gb101)); clear HB; have HB := n0_; have BK101 := n1_; have GW101 := n2_; have GE101 := n3_; clear n0_ n1_ n2_ n3_; clear hb hbox hg; obtain ⟨_, _, _, _, _, _, _, _⟩ := q4 BK101.out) | (go_at_call 129; (with_reducible refine (expr_line.calls k a0_0 t102 _ A3.out).mono ?_); rintro e w' ⟨rfl, ⟨nd, rfl⟩⟩; (try first | exact qw | exact ⟨rfl, _, Eq.trans (World.drewN_drewN _ _ _) (congrArg (World.drewN _) (Nat.add_assoc _ _ _))⟩); have p103 : 0 ≤ (a1 : Int) := qa; have q103 : a1 < (l0_3.length : Int) := qa; obtain ⟨ad103, A103_3, c103_3, e103, hx103_0, hx103_1, hx103_2, hx103_3, hl103_3, hi103_3⟩ := at_T34 HR0_3.out a1 p103 q103; cases e103; replace hx103_0 := qc HB.out hx103_0; replace hx103_1 := qc HB.out hx103_1; replace hx103_2 := qc HB.out hx103_2; replace hx103_3 := qc HB.out hx103_3; have HR103_3 := Aside0.mk hi103_3; have HC103_3 := Aside0.mk hl103_3; clear hi103_3 hl103_3; replace p103 := eq_true p103; replace q103 := eq_true q103) | (go_at_call 129; (with_reducible refine (expr_line.calls k ((rd_T34 l0_3 a1).f0) t104 _ A6.out).mono ?_); rintro e w' ⟨rfl, ⟨nd, rfl⟩⟩; (try first | exact qw | exact ⟨rfl, _, Eq.trans (World.drewN_drewN _ _ _) (congrArg (World.drewN _) (Nat.add_assoc _ _ _))⟩))); try go_wp2_with (first | ((with_reducible refine gate_dst (N := 2) rfl ?_); refine box_event ?hg (N := 2) ?hd (cs := #[.int .i64 a0_0, .int .i64 a0_1, .string a0_2, .slice A0_3 l0_3.length c0_3]) (t := 34) ?hr ?_; (case hd => rfl); (case hg => rfl); (case hr => first | (go_simp; done) | (go_simp; rfl)); intro gb101 hg w13 hbox hb; have n0_ := qs hb; have n1_ := Aside0.mk (hbox); have n2_ := Aside0.mk ((by rw [hg]; exact (below_size qb) : w.heap.size ≤ gb101)); have n3_ := Aside0.mk ((by rw [hg]; exact (below_size qb) : w.heap.size ≤ gb101)); clear HB; have HB := n0_; have BK101 := n1_; have GW101 := n2_; have GE101 := n3_; clear n0_ n1_ n2_ n3_; clear hb hbox hg; obtain ⟨_, _, _, _, _, _, _, _⟩ := q4 BK101.out) | (go_at_call 129; (with_reducible refine (expr_line.calls k a0_0 t102 _ A3.out).mono ?_); rintro e w' ⟨rfl, ⟨nd, rfl⟩⟩; (try first | exact qw | exact ⟨rfl, _, Eq.trans (World.drewN_drewN _ _ _) (congrArg (World.drewN _) (Nat.add_assoc _ _ _))⟩); have p103 : 0 ≤ (a1 : Int) := qa; have q103 : a1 < (l0_3.length : Int) := qa; obtain ⟨ad103, A103_3, c103_3, e103, hx103_0, hx103_1, hx103_2, hx103_3, hl103_3, hi103_3⟩ := at_T34 HR0_3.out a1 p103 q103; cases e103; replace hx103_0 := qc HB.out hx103_0; replace hx103_1 := qc HB.out hx103_1; replace hx103_2 := qc HB.out hx103_2; replace hx103_3 := qc HB.out hx103_3; have HR103_3 := Aside0.mk hi103_3; have HC103_3 := Aside0.mk hl103_3; clear hi103_3 hl103_3; replace p103 := eq_true p103; replace q103 := eq_true q103) | (go_at_call 129; (with_reducible refine (expr_line.calls k ((rd_T34 l0_3 a1).f0) t104 _ A6.out).mono ?_); rintro e w' ⟨rfl, ⟨nd, rfl⟩⟩; (try first | exact qw | exact ⟨rfl, _, Eq.trans (World.drewN_drewN _ _ _) (congrArg (World.drewN _) (Nat.add_assoc _ _ _))⟩))))
       go_ret
       exact qr
      ·rw [if_neg c12] at H
       obtain ⟨c12b0, c12b1⟩ := qd c12
       obtain rfl := Option.some.inj H
       go_enter Tryd.func96, Tryd.ntmps96
       go_wp2_with (first | ((with_reducible refine gate_dst (N := 2) rfl ?_); refine box_event ?hg (N := 2) ?hd (cs := #[.int .i64 a0_0, .int .i64 a0_1, .string a0_2, .slice A0_3 l0_3.length c0_3]) (t := 34) ?hr ?_; (case hd => rfl); (case hg => rfl); (case hr => first | (go_simp; done) | (go_simp; rfl)); intro gb101 hg w15 hbox hb; have n0_ := qs hb; have n1_ := Aside0.mk (hbox); have n2_ := Aside0.mk ((by rw [hg]; exact (below_size qb) : w.heap.size ≤ gb101)); have n3_ := Aside0.mk ((by rw [hg]; exact (below_size qb) : w.heap.size ≤ gb101)); clear HB; have HB := n0_; have BK101 := n1_; have GW101 := n2_; have GE101 := n3_; clear n0_ n1_ n2_ n3_; clear hb hbox hg; obtain ⟨_, _, _, _, _, _, _, _⟩ := q4 BK101.out) | (go_at_call 129; (with_reducible refine (expr_line.calls k a0_0 t102 _ A3.out).mono ?_); rintro e w' ⟨rfl, ⟨nd, rfl⟩⟩; (try first | exact qw | exact ⟨rfl, _, Eq.trans (World.drewN_drewN _ _ _) (congrArg (World.drewN _) (Nat.add_assoc _ _ _))⟩); have p103 : 0 ≤ (a1 : Int) := qa; have q103 : a1 < (l0_3.length : Int) := qa; obtain ⟨ad103, A103_3, c103_3, e103, hx103_0, hx103_1, hx103_2, hx103_3, hl103_3, hi103_3⟩ := at_T34 HR0_3.out a1 p103 q103; cases e103; replace hx103_0 := qc HB.out hx103_0; replace hx103_1 := qc HB.out hx103_1; replace hx103_2 := qc HB.out hx103_2; replace hx103_3 := qc HB.out hx103_3; have HR103_3 := Aside0.mk hi103_3; have HC103_3 := Aside0.mk hl103_3; clear hi103_3 hl103_3; replace p103 := eq_true p103; replace q103 := eq_true q103) | (go_at_call 129; (with_reducible refine (expr_line.calls k ((rd_T34 l0_3 a1).f0) t104 _ A6.out).mono ?_); rintro e w' ⟨rfl, ⟨nd, rfl⟩⟩; (try first | exact qw | exact ⟨rfl, _, Eq.trans (World.drewN_drewN _ _ _) (congrArg (World.drewN _) (Nat.add_assoc _ _ _))⟩)))
       repeat (go_quiet (first | ((with_reducible refine gate_dst (N := 2) rfl ?_); refine box_event ?hg (N := 2) ?hd (cs := #[.int .i64 a0_0, .int .i64 a0_1, .string a0_2, .slice A0_3 l0_3.length c0_3]) (t := 34) ?hr ?_; (case hd => rfl); (case hg => rfl); (case hr => first | (go_simp; done) | (go_simp; rfl)); intro gb101 hg w15 hbox hb; have n0_ := qs hb; have n1_ := Aside0.mk (hbox); have n2_ := Aside0.mk ((by rw [hg]; exact (below_size qb) : w.heap.size ≤ gb101)); have n3_ := Aside0.mk ((by rw [hg]; exact (below_size qb) : w.heap.size ≤ gb101)); clear HB; have HB := n0_; have BK101 := n1_; have GW101 := n2_; have GE101 := n3_; clear n0_ n1_ n2_ n3_; clear hb hbox hg; obtain ⟨_, _, _, _, _, _, _, _⟩ := q4 BK101.out) | (go_at_call 129; (with_reducible refine (expr_line.calls k a0_0 t102 _ A3.out).mono ?_); rintro e w' ⟨rfl, ⟨nd, rfl⟩⟩; (try first | exact qw | exact ⟨rfl, _, Eq.trans (World.drewN_drewN _ _ _) (congrArg (World.drewN _) (Nat.add_assoc _ _ _))⟩); have p103 : 0 ≤ (a1 : Int) := qa; have q103 : a1 < (l0_3.length : Int) := qa; obtain ⟨ad103, A103_3, c103_3, e103, hx103_0, hx103_1, hx103_2, hx103_3, hl103_3, hi103_3⟩ := at_T34 HR0_3.out a1 p103 q103; cases e103; replace hx103_0 := qc HB.out hx103_0; replace hx103_1 := qc HB.out hx103_1; replace hx103_2 := qc HB.out hx103_2; replace hx103_3 := qc HB.out hx103_3; have HR103_3 := Aside0.mk hi103_3; have HC103_3 := Aside0.mk hl103_3; clear hi103_3 hl103_3; replace p103 := eq_true p103; replace q103 := eq_true q103) | (go_at_call 129; (with_reducible refine (expr_line.calls k ((rd_T34 l0_3 a1).f0) t104 _ A6.out).mono ?_); rintro e w' ⟨rfl, ⟨nd, rfl⟩⟩; (try first | exact qw | exact ⟨rfl, _, Eq.trans (World.drewN_drewN _ _ _) (congrArg (World.drewN _) (Nat.add_assoc _ _ _))⟩))); try go_wp2_with (first | ((with_reducible refine gate_dst (N := 2) rfl ?_); refine box_event ?hg (N := 2) ?hd (cs := #[.int .i64 a0_0, .int .i64 a0_1, .string a0_2, .slice A0_3 l0_3.length c0_3]) (t := 34) ?hr ?_; (case hd => rfl); (case hg => rfl); (case hr => first | (go_simp; done) | (go_simp; rfl)); intro gb101 hg w15 hbox hb; have n0_ := qs hb; have n1_ := Aside0.mk (hbox); have n2_ := Aside0.mk ((by rw [hg]; exact (below_size qb) : w.heap.size ≤ gb101)); have n3_ := Aside0.mk ((by rw [hg]; exact (below_size qb) : w.heap.size ≤ gb101)); clear HB; have HB := n0_; have BK101 := n1_; have GW101 := n2_; have GE101 := n3_; clear n0_ n1_ n2_ n3_; clear hb hbox hg; obtain ⟨_, _, _, _, _, _, _, _⟩ := q4 BK101.out) | (go_at_call 129; (with_reducible refine (expr_line.calls k a0_0 t102 _ A3.out).mono ?_); rintro e w' ⟨rfl, ⟨nd, rfl⟩⟩; (try first | exact qw | exact ⟨rfl, _, Eq.trans (World.drewN_drewN _ _ _) (congrArg (World.drewN _) (Nat.add_assoc _ _ _))⟩); have p103 : 0 ≤ (a1 : Int) := qa; have q103 : a1 < (l0_3.length : Int) := qa; obtain ⟨ad103, A103_3, c103_3, e103, hx103_0, hx103_1, hx103_2, hx103_3, hl103_3, hi103_3⟩ := at_T34 HR0_3.out a1 p103 q103; cases e103; replace hx103_0 := qc HB.out hx103_0; replace hx103_1 := qc HB.out hx103_1; replace hx103_2 := qc HB.out hx103_2; replace hx103_3 := qc HB.out hx103_3; have HR103_3 := Aside0.mk hi103_3; have HC103_3 := Aside0.mk hl103_3; clear hi103_3 hl103_3; replace p103 := eq_true p103; replace q103 := eq_true q103) | (go_at_call 129; (with_reducible refine (expr_line.calls k ((rd_T34 l0_3 a1).f0) t104 _ A6.out).mono ?_); rintro e w' ⟨rfl, ⟨nd, rfl⟩⟩; (try first | exact qw | exact ⟨rfl, _, Eq.trans (World.drewN_drewN _ _ _) (congrArg (World.drewN _) (Nat.add_assoc _ _ _))⟩))))
       go_ret
       exact qr
     ·rw [if_neg c11] at H
      have c11b0 : decide (t102 < 6) = false := decide_eq_false c11
      clear c11
      obtain rfl := Option.some.inj H
      go_enter Tryd.func96, Tryd.ntmps96
      go_wp2_with (first | ((with_reducible refine gate_dst (N := 2) rfl ?_); refine box_event ?hg (N := 2) ?hd (cs := #[.int .i64 a0_0, .int .i64 a0_1, .string a0_2, .slice A0_3 l0_3.length c0_3]) (t := 34) ?hr ?_; (case hd => rfl); (case hg => rfl); (case hr => first | (go_simp; done) | (go_simp; rfl)); intro gb101 hg w17 hbox hb; have n0_ := qs hb; have n1_ := Aside0.mk (hbox); have n2_ := Aside0.mk ((by rw [hg]; exact (below_size qb) : w.heap.size ≤ gb101)); have n3_ := Aside0.mk ((by rw [hg]; exact (below_size qb) : w.heap.size ≤ gb101)); clear HB; have HB := n0_; have BK101 := n1_; have GW101 := n2_; have GE101 := n3_; clear n0_ n1_ n2_ n3_; clear hb hbox hg; obtain ⟨_, _, _, _, _, _, _, _⟩ := q4 BK101.out) | (go_at_call 129; (with_reducible refine (expr_line.calls k a0_0 t102 _ A3.out).mono ?_); rintro e w' ⟨rfl, ⟨nd, rfl⟩⟩; (try first | exact qw | exact ⟨rfl, _, Eq.trans (World.drewN_drewN _ _ _) (congrArg (World.drewN _) (Nat.add_assoc _ _ _))⟩); have p103 : 0 ≤ (a1 : Int) := qa; have q103 : a1 < (l0_3.length : Int) := qa; obtain ⟨ad103, A103_3, c103_3, e103, hx103_0, hx103_1, hx103_2, hx103_3, hl103_3, hi103_3⟩ := at_T34 HR0_3.out a1 p103 q103; cases e103; replace hx103_0 := qc HB.out hx103_0; replace hx103_1 := qc HB.out hx103_1; replace hx103_2 := qc HB.out hx103_2; replace hx103_3 := qc HB.out hx103_3; have HR103_3 := Aside0.mk hi103_3; have HC103_3 := Aside0.mk hl103_3; clear hi103_3 hl103_3; replace p103 := eq_true p103; replace q103 := eq_true q103) | (go_at_call 129; (with_reducible refine (expr_line.calls k ((rd_T34 l0_3 a1).f0) t104 _ A6.out).mono ?_); rintro e w' ⟨rfl, ⟨nd, rfl⟩⟩; (try first | exact qw | exact ⟨rfl, _, Eq.trans (World.drewN_drewN _ _ _) (congrArg (World.drewN _) (Nat.add_assoc _ _ _))⟩)))
      repeat (go_quiet (first | ((with_reducible refine gate_dst (N := 2) rfl ?_); refine box_event ?hg (N := 2) ?hd (cs := #[.int .i64 a0_0, .int .i64 a0_1, .string a0_2, .slice A0_3 l0_3.length c0_3]) (t := 34) ?hr ?_; (case hd => rfl); (case hg => rfl); (case hr => first | (go_simp; done) | (go_simp; rfl)); intro gb101 hg w17 hbox hb; have n0_ := qs hb; have n1_ := Aside0.mk (hbox); have n2_ := Aside0.mk ((by rw [hg]; exact (below_size qb) : w.heap.size ≤ gb101)); have n3_ := Aside0.mk ((by rw [hg]; exact (below_size qb) : w.heap.size ≤ gb101)); clear HB; have HB := n0_; have BK101 := n1_; have GW101 := n2_; have GE101 := n3_; clear n0_ n1_ n2_ n3_; clear hb hbox hg; obtain ⟨_, _, _, _, _, _, _, _⟩ := q4 BK101.out) | (go_at_call 129; (with_reducible refine (expr_line.calls k a0_0 t102 _ A3.out).mono ?_); rintro e w' ⟨rfl, ⟨nd, rfl⟩⟩; (try first | exact qw | exact ⟨rfl, _, Eq.trans (World.drewN_drewN _ _ _) (congrArg (World.drewN _) (Nat.add_assoc _ _ _))⟩); have p103 : 0 ≤ (a1 : Int) := qa; have q103 : a1 < (l0_3.length : Int) := qa; obtain ⟨ad103, A103_3, c103_3, e103, hx103_0, hx103_1, hx103_2, hx103_3, hl103_3, hi103_3⟩ := at_T34 HR0_3.out a1 p103 q103; cases e103; replace hx103_0 := qc HB.out hx103_0; replace hx103_1 := qc HB.out hx103_1; replace hx103_2 := qc HB.out hx103_2; replace hx103_3 := qc HB.out hx103_3; have HR103_3 := Aside0.mk hi103_3; have HC103_3 := Aside0.mk hl103_3; clear hi103_3 hl103_3; replace p103 := eq_true p103; replace q103 := eq_true q103) | (go_at_call 129; (with_reducible refine (expr_line.calls k ((rd_T34 l0_3 a1).f0) t104 _ A6.out).mono ?_); rintro e w' ⟨rfl, ⟨nd, rfl⟩⟩; (try first | exact qw | exact ⟨rfl, _, Eq.trans (World.drewN_drewN _ _ _) (congrArg (World.drewN _) (Nat.add_assoc _ _ _))⟩))); try go_wp2_with (first | ((with_reducible refine gate_dst (N := 2) rfl ?_); refine box_event ?hg (N := 2) ?hd (cs := #[.int .i64 a0_0, .int .i64 a0_1, .string a0_2, .slice A0_3 l0_3.length c0_3]) (t := 34) ?hr ?_; (case hd => rfl); (case hg => rfl); (case hr => first | (go_simp; done) | (go_simp; rfl)); intro gb101 hg w17 hbox hb; have n0_ := qs hb; have n1_ := Aside0.mk (hbox); have n2_ := Aside0.mk ((by rw [hg]; exact (below_size qb) : w.heap.size ≤ gb101)); have n3_ := Aside0.mk ((by rw [hg]; exact (below_size qb) : w.heap.size ≤ gb101)); clear HB; have HB := n0_; have BK101 := n1_; have GW101 := n2_; have GE101 := n3_; clear n0_ n1_ n2_ n3_; clear hb hbox hg; obtain ⟨_, _, _, _, _, _, _, _⟩ := q4 BK101.out) | (go_at_call 129; (with_reducible refine (expr_line.calls k a0_0 t102 _ A3.out).mono ?_); rintro e w' ⟨rfl, ⟨nd, rfl⟩⟩; (try first | exact qw | exact ⟨rfl, _, Eq.trans (World.drewN_drewN _ _ _) (congrArg (World.drewN _) (Nat.add_assoc _ _ _))⟩); have p103 : 0 ≤ (a1 : Int) := qa; have q103 : a1 < (l0_3.length : Int) := qa; obtain ⟨ad103, A103_3, c103_3, e103, hx103_0, hx103_1, hx103_2, hx103_3, hl103_3, hi103_3⟩ := at_T34 HR0_3.out a1 p103 q103; cases e103; replace hx103_0 := qc HB.out hx103_0; replace hx103_1 := qc HB.out hx103_1; replace hx103_2 := qc HB.out hx103_2; replace hx103_3 := qc HB.out hx103_3; have HR103_3 := Aside0.mk hi103_3; have HC103_3 := Aside0.mk hl103_3; clear hi103_3 hl103_3; replace p103 := eq_true p103; replace q103 := eq_true q103) | (go_at_call 129; (with_reducible refine (expr_line.calls k ((rd_T34 l0_3 a1).f0) t104 _ A6.out).mono ?_); rintro e w' ⟨rfl, ⟨nd, rfl⟩⟩; (try first | exact qw | exact ⟨rfl, _, Eq.trans (World.drewN_drewN _ _ _) (congrArg (World.drewN _) (Nat.add_assoc _ _ _))⟩))))
      go_ret
      exact qr
    ·rw [if_neg c10] at H
     obtain ⟨c10b0, c10b1⟩ := qd c10
     obtain rfl := Option.some.inj H
     go_enter Tryd.func96, Tryd.ntmps96
     go_wp2_with (first | ((with_reducible refine gate_dst (N := 2) rfl ?_); refine box_event ?hg (N := 2) ?hd (cs := #[.int .i64 a0_0, .int .i64 a0_1, .string a0_2, .slice A0_3 l0_3.length c0_3]) (t := 34) ?hr ?_; (case hd => rfl); (case hg => rfl); (case hr => first | (go_simp; done) | (go_simp; rfl)); intro gb101 hg w19 hbox hb; have n0_ := qs hb; have n1_ := Aside0.mk (hbox); have n2_ := Aside0.mk ((by rw [hg]; exact (below_size qb) : w.heap.size ≤ gb101)); have n3_ := Aside0.mk ((by rw [hg]; exact (below_size qb) : w.heap.size ≤ gb101)); clear HB; have HB := n0_; have BK101 := n1_; have GW101 := n2_; have GE101 := n3_; clear n0_ n1_ n2_ n3_; clear hb hbox hg; obtain ⟨_, _, _, _, _, _, _, _⟩ := q4 BK101.out) | (go_at_call 129; (with_reducible refine (expr_line.calls k a0_0 t102 _ A3.out).mono ?_); rintro e w' ⟨rfl, ⟨nd, rfl⟩⟩; (try first | exact qw | exact ⟨rfl, _, Eq.trans (World.drewN_drewN _ _ _) (congrArg (World.drewN _) (Nat.add_assoc _ _ _))⟩); have p103 : 0 ≤ (a1 : Int) := qa; have q103 : a1 < (l0_3.length : Int) := qa; obtain ⟨ad103, A103_3, c103_3, e103, hx103_0, hx103_1, hx103_2, hx103_3, hl103_3, hi103_3⟩ := at_T34 HR0_3.out a1 p103 q103; cases e103; replace hx103_0 := qc HB.out hx103_0; replace hx103_1 := qc HB.out hx103_1; replace hx103_2 := qc HB.out hx103_2; replace hx103_3 := qc HB.out hx103_3; have HR103_3 := Aside0.mk hi103_3; have HC103_3 := Aside0.mk hl103_3; clear hi103_3 hl103_3; replace p103 := eq_true p103; replace q103 := eq_true q103) | (go_at_call 129; (with_reducible refine (expr_line.calls k ((rd_T34 l0_3 a1).f0) t104 _ A6.out).mono ?_); rintro e w' ⟨rfl, ⟨nd, rfl⟩⟩; (try first | exact qw | exact ⟨rfl, _, Eq.trans (World.drewN_drewN _ _ _) (congrArg (World.drewN _) (Nat.add_assoc _ _ _))⟩)))
     repeat (go_quiet (first | ((with_reducible refine gate_dst (N := 2) rfl ?_); refine box_event ?hg (N := 2) ?hd (cs := #[.int .i64 a0_0, .int .i64 a0_1, .string a0_2, .slice A0_3 l0_3.length c0_3]) (t := 34) ?hr ?_; (case hd => rfl); (case hg => rfl); (case hr => first | (go_simp; done) | (go_simp; rfl)); intro gb101 hg w19 hbox hb; have n0_ := qs hb; have n1_ := Aside0.mk (hbox); have n2_ := Aside0.mk ((by rw [hg]; exact (below_size qb) : w.heap.size ≤ gb101)); have n3_ := Aside0.mk ((by rw [hg]; exact (below_size qb) : w.heap.size ≤ gb101)); clear HB; have HB := n0_; have BK101 := n1_; have GW101 := n2_; have GE101 := n3_; clear n0_ n1_ n2_ n3_; clear hb hbox hg; obtain ⟨_, _, _, _, _, _, _, _⟩ := q4 BK101.out) | (go_at_call 129; (with_reducible refine (expr_line.calls k a0_0 t102 _ A3.out).mono ?_); rintro e w' ⟨rfl, ⟨nd, rfl⟩⟩; (try first | exact qw | exact ⟨rfl, _, Eq.trans (World.drewN_drewN _ _ _) (congrArg (World.drewN _) (Nat.add_assoc _ _ _))⟩); have p103 : 0 ≤ (a1 : Int) := qa; have q103 : a1 < (l0_3.length : Int) := qa; obtain ⟨ad103, A103_3, c103_3, e103, hx103_0, hx103_1, hx103_2, hx103_3, hl103_3, hi103_3⟩ := at_T34 HR0_3.out a1 p103 q103; cases e103; replace hx103_0 := qc HB.out hx103_0; replace hx103_1 := qc HB.out hx103_1; replace hx103_2 := qc HB.out hx103_2; replace hx103_3 := qc HB.out hx103_3; have HR103_3 := Aside0.mk hi103_3; have HC103_3 := Aside0.mk hl103_3; clear hi103_3 hl103_3; replace p103 := eq_true p103; replace q103 := eq_true q103) | (go_at_call 129; (with_reducible refine (expr_line.calls k ((rd_T34 l0_3 a1).f0) t104 _ A6.out).mono ?_); rintro e w' ⟨rfl, ⟨nd, rfl⟩⟩; (try first | exact qw | exact ⟨rfl, _, Eq.trans (World.drewN_drewN _ _ _) (congrArg (World.drewN _) (Nat.add_assoc _ _ _))⟩))); try go_wp2_with (first | ((with_reducible refine gate_dst (N := 2) rfl ?_); refine box_event ?hg (N := 2) ?hd (cs := #[.int .i64 a0_0, .int .i64 a0_1, .string a0_2, .slice A0_3 l0_3.length c0_3]) (t := 34) ?hr ?_; (case hd => rfl); (case hg => rfl); (case hr => first | (go_simp; done) | (go_simp; rfl)); intro gb101 hg w19 hbox hb; have n0_ := qs hb; have n1_ := Aside0.mk (hbox); have n2_ := Aside0.mk ((by rw [hg]; exact (below_size qb) : w.heap.size ≤ gb101)); have n3_ := Aside0.mk ((by rw [hg]; exact (below_size qb) : w.heap.size ≤ gb101)); clear HB; have HB := n0_; have BK101 := n1_; have GW101 := n2_; have GE101 := n3_; clear n0_ n1_ n2_ n3_; clear hb hbox hg; obtain ⟨_, _, _, _, _, _, _, _⟩ := q4 BK101.out) | (go_at_call 129; (with_reducible refine (expr_line.calls k a0_0 t102 _ A3.out).mono ?_); rintro e w' ⟨rfl, ⟨nd, rfl⟩⟩; (try first | exact qw | exact ⟨rfl, _, Eq.trans (World.drewN_drewN _ _ _) (congrArg (World.drewN _) (Nat.add_assoc _ _ _))⟩); have p103 : 0 ≤ (a1 : Int) := qa; have q103 : a1 < (l0_3.length : Int) := qa; obtain ⟨ad103, A103_3, c103_3, e103, hx103_0, hx103_1, hx103_2, hx103_3, hl103_3, hi103_3⟩ := at_T34 HR0_3.out a1 p103 q103; cases e103; replace hx103_0 := qc HB.out hx103_0; replace hx103_1 := qc HB.out hx103_1; replace hx103_2 := qc HB.out hx103_2; replace hx103_3 := qc HB.out hx103_3; have HR103_3 := Aside0.mk hi103_3; have HC103_3 := Aside0.mk hl103_3; clear hi103_3 hl103_3; replace p103 := eq_true p103; replace q103 := eq_true q103) | (go_at_call 129; (with_reducible refine (expr_line.calls k ((rd_T34 l0_3 a1).f0) t104 _ A6.out).mono ?_); rintro e w' ⟨rfl, ⟨nd, rfl⟩⟩; (try first | exact qw | exact ⟨rfl, _, Eq.trans (World.drewN_drewN _ _ _) (congrArg (World.drewN _) (Nat.add_assoc _ _ _))⟩))))
     go_ret
     exact qr
  ·rw [if_neg c5] at H
   exact absurd H (by simp)
 ·rw [if_neg c4] at H
  exact absurd H (by simp)
end Go.Proofs.YtiaccdaeomaogaaDoor.F
namespace Go.Proofs
open Go.Shelf
def Tryd.lays137_ren : Go.Shelf.Ren := ⟨fun | 137 => 159 | 217 => 171 | 266 => 178 | n => n, fun | 9 => 9 | 5 => 5 | 3 => 3 | n => n, fun | n => n⟩
theorem Tryd.lays137 : Go.Proofs.Lays.n137 Tryd.prog Tryd.lays137_ren := {
  mixed := by kernel_rfl
  f137 := Tryd.func159.trans (congrArg some (by kernel_rfl))
  f217 := Tryd.func171.trans (congrArg some (by kernel_rfl))
  f266 := Tryd.func178.trans (congrArg some (by kernel_rfl))
  t3 := Tryd.underlying3
  a3 := Tryd.isAgg3
  z3 := Tryd.sizeOf3
  v3 := Tryd.zeroValue3
  t5 := Tryd.underlying5
  a5 := Tryd.isAgg5
  z5 := Tryd.sizeOf5
  v5 := Tryd.zeroValue5
  t9 := Tryd.underlying9
  a9 := Tryd.isAgg9
  z9 := Tryd.sizeOf9
  v9 := Tryd.zeroValue9 }
open Go.RowKit in
theorem Tryd.strings_IndexByte (s : ByteArray) (c : Int) (w : World) :
    Calls Tryd.prog 159 #[.string s, .int .u8 c] w fun e w' => e = .returned (.int .i64 (Lib.indexByte s.data.toList c.toNat.toUInt8)) ∧ w' = w := Any.strings_IndexByte Tryd.lays137 s c w
def Tryd.lays195_ren : Go.Shelf.Ren := ⟨fun | 195 => 120 | n => n, fun | 9 => 9 | 3 => 3 | 0 => 0 | 4 => 4 | n => n, fun | n => n⟩
theorem Tryd.lays195 : Go.Proofs.Lays.n195 Tryd.prog Tryd.lays195_ren := {
  mixed := by kernel_rfl
  f195 := Tryd.func120.trans (congrArg some (by kernel_rfl))
  t0 := Tryd.underlying0
  a0 := Tryd.isAgg0
  z0 := Tryd.sizeOf0
  v0 := Tryd.zeroValue0
  t3 := Tryd.underlying3
  a3 := Tryd.isAgg3
  z3 := Tryd.sizeOf3
  v3 := Tryd.zeroValue3
  t4 := Tryd.underlying4
  a4 := Tryd.isAgg4
  z4 := Tryd.sizeOf4
  v4 := Tryd.zeroValue4
  t9 := Tryd.underlying9
  a9 := Tryd.isAgg9
  z9 := Tryd.sizeOf9
  v9 := Tryd.zeroValue9 }
open Go.RowKit in
theorem Tryd.utf8_RuneCountInString (s : ByteArray) (w : World) (hs : s.size < 9223372036854775807) :
    Calls Tryd.prog 120 #[.string s] w fun e w' => e = .returned (.int .i64 (Lib.runeCount s)) ∧ ∃ pos, w' = w.iter s pos := Any.utf8_RuneCountInString Tryd.lays195 s w hs
def Tryd.lays190_ren : Go.Shelf.Ren := ⟨fun | 190 => 139 | 125 => 157 | 258 => 156 | 128 => 169 | 129 => 170 | 302 => 160 | 303 => 161 | 304 => 162 | 305 => 163 | 306 => 164 | 307 => 165 | 308 => 166 | 309 => 167 | 310 => 168 | 333 => 172 | 329 => 173 | 330 => 174 | 334 => 175 | 335 => 176 | 336 => 177 | 344 => 179 | n => n, fun | 31 => 23 | 9 => 9 | 3 => 3 | 46 => 184 | 0 => 0 | 51 => 204 | 53 => 188 | 4 => 4 | 183 => 197 | 182 => 196 | 131 => 131 | 5 => 5 | 218 => 206 | 222 => 210 | 228 => 212 | 229 => 186 | n => n, fun | n => n⟩
theorem Tryd.lays190 : Go.Proofs.Lays.n190 Tryd.prog Tryd.lays190_ren := {
  mixed := by kernel_rfl
  f125 := Tryd.func157.trans (congrArg some (by kernel_rfl))
  f128 := Tryd.func169.trans (congrArg some (by kernel_rfl))
  f129 := Tryd.func170.trans (congrArg some (by kernel_rfl))
  f190 := Tryd.func139.trans (congrArg some (by kernel_rfl))
  f258 := Tryd.func156.trans (congrArg some (by kernel_rfl))
  f302 := Tryd.func160.trans (congrArg some (by kernel_rfl))
  f303 := Tryd.func161.trans (congrArg some (by kernel_rfl))
  f304 := Tryd.func162.trans (congrArg some (by kernel_rfl))
  f305 := Tryd.func163.trans (congrArg some (by kernel_rfl))
  f306 := Tryd.func164.trans (congrArg some (by kernel_rfl))
  f307 := Tryd.func165.trans (congrArg some (by kernel_rfl))
  f308 := Tryd.func166.trans (congrArg some (by kernel_rfl))
  f309 := Tryd.func167.trans (congrArg some (by kernel_rfl))
  f310 := Tryd.func168.trans (congrArg some (by kernel_rfl))
  f329 := Tryd.func173.trans (congrArg some (by kernel_rfl))
  f330 := Tryd.func174.trans (congrArg some (by kernel_rfl))
  f333 := Tryd.func172.trans (congrArg some (by kernel_rfl))
  f334 := Tryd.func175.trans (congrArg some (by kernel_rfl))
  f335 := Tryd.func176.trans (congrArg some (by kernel_rfl))
  f336 := Tryd.func177.trans (congrArg some (by kernel_rfl))
  f344 := Tryd.func179.trans (congrArg some (by kernel_rfl))
  t0 := Tryd.underlying0
  a0 := Tryd.isAgg0
  z0 := Tryd.sizeOf0
  v0 := Tryd.zeroValue0
  t3 := Tryd.underlying3
  a3 := Tryd.isAgg3
  z3 := Tryd.sizeOf3
  v3 := Tryd.zeroValue3
  t4 := Tryd.underlying4
  a4 := Tryd.isAgg4
  z4 := Tryd.sizeOf4
  v4 := Tryd.zeroValue4
  t5 := Tryd.underlying5
  a5 := Tryd.isAgg5
  z5 := Tryd.sizeOf5
  v5 := Tryd.zeroValue5
  t9 := Tryd.underlying9
  a9 := Tryd.isAgg9
  z9 := Tryd.sizeOf9
  v9 := Tryd.zeroValue9
  t31 := Tryd.underlying23
  a31 := Tryd.isAgg23
  z31 := Tryd.sizeOf23
  v31 := Tryd.zeroValue23
  t46 := Tryd.underlying184
  a46 := Tryd.isAgg184
  z46 := Tryd.sizeOf184
  v46 := Tryd.zeroValue184
  t51 := Tryd.underlying204
  a51 := Tryd.isAgg204
  z51 := Tryd.sizeOf204
  v51 := Tryd.zeroValue204
  t53 := Tryd.underlying188
  a53 := Tryd.isAgg188
  z53 := Tryd.sizeOf188
  v53 := Tryd.zeroValue188
  t131 := Tryd.underlying131
  a131 := Tryd.isAgg131
  z131 := Tryd.sizeOf131
  v131 := Tryd.zeroValue131
  t182 := Tryd.underlying196
  a182 := Tryd.isAgg196
  z182 := Tryd.sizeOf196
  v182 := Tryd.zeroValue196
  t183 := Tryd.underlying197
  a183 := Tryd.isAgg197
  z183 := Tryd.sizeOf197
  v183 := Tryd.zeroValue197
  t218 := Tryd.underlying206
  a218 := Tryd.isAgg206
  z218 := Tryd.sizeOf206
  v218 := Tryd.zeroValue206
  t222 := Tryd.underlying210
  a222 := Tryd.isAgg210
  z222 := Tryd.sizeOf210
  v222 := Tryd.zeroValue210
  t228 := Tryd.underlying212
  a228 := Tryd.isAgg212
  z228 := Tryd.sizeOf212
  v228 := Tryd.zeroValue212
  t229 := Tryd.underlying186
  a229 := Tryd.isAgg186
  z229 := Tryd.sizeOf186
  v229 := Tryd.zeroValue186 }
open Go.Sort Go.RowKit in
theorem Tryd.slices_Sort_string (blk off cap : Nat) (ss : List (List UInt8)) (w : World) (hH : Holds encStr w blk off ss.toArray) (hblk : blk < w.heap.size) (hsz : ss.length < 4611686018427387904) :
    Calls Tryd.prog 139 #[.slice (some ⟨blk, off, none⟩) ss.length cap] w fun e w' =>
      e = .returned (.tuple #[]) ∧ ∃ n os, w' = grow (putRow encStr (Sort.ahead w n) blk off (ss.mergeSort fun x y => decide (x ≤ y)).toArray) os := Any.slices_Sort_string Tryd.lays190 blk off cap ss w hH hblk hsz
def Tryd.lays194_ren : Go.Shelf.Ren := ⟨fun | 194 => 140 | n => n, fun | 31 => 23 | 9 => 9 | 3 => 3 | 4 => 4 | 0 => 0 | n => n, fun | n => n⟩
theorem Tryd.lays194 : Go.Proofs.Lays.n194 Tryd.prog Tryd.lays194_ren := {
  mixed := by kernel_rfl
  f194 := Tryd.func140.trans (congrArg some (by kernel_rfl))
  t0 := Tryd.underlying0
  a0 := Tryd.isAgg0
  z0 := Tryd.sizeOf0
  v0 := Tryd.zeroValue0
  t3 := Tryd.underlying3
  a3 := Tryd.isAgg3
  z3 := Tryd.sizeOf3
  v3 := Tryd.zeroValue3
  t4 := Tryd.underlying4
  a4 := Tryd.isAgg4
  z4 := Tryd.sizeOf4
  v4 := Tryd.zeroValue4
  t9 := Tryd.underlying9
  a9 := Tryd.isAgg9
  z9 := Tryd.sizeOf9
  v9 := Tryd.zeroValue9
  t31 := Tryd.underlying23
  a31 := Tryd.isAgg23
  z31 := Tryd.sizeOf23
  v31 := Tryd.zeroValue23 }
open Go.RowKit Go.Lib Go.Sort in
theorem Tryd.slices_Compact_string (blk off cap : Nat) (zs : List (List UInt8)) (w : World) (hH : Holds encStr w blk off zs.toArray) (hsz : zs.length ≤ 9223372036854775807) (hcap : zs.length ≤ cap) :
    Calls Tryd.prog 140 #[.slice (some ⟨blk, off, none⟩) zs.length cap] w fun e w' => e = .returned (.slice (some ⟨blk, off, none⟩) (Lib.compact zs).length cap) ∧ ∃ q, w' = putRow encStr (Sort.ahead w q) blk off (Lib.compact zs ++ List.replicate (zs.length - (Lib.compact zs).length) []).toArray := Any.slices_Compact_string Tryd.lays194 blk off cap zs w hH hsz hcap
open Go.RowKit Go.Lib Go.Sort in
theorem Tryd.slices_Compact_string_empty (a : Option Addr) (cap : Nat) (w : World) :
    Calls Tryd.prog 140 #[.slice a 0 cap] w fun e w' => e = .returned (.slice a 0 cap) ∧ w' = w := Any.slices_Compact_string_empty Tryd.lays194 a cap w
open Go.RowKit Go.Sort in
theorem Tryd.slices_Sort_string_none (p : Option Addr) (cap : Nat) (w : World) :
    Calls Tryd.prog 139 #[.slice p 0 cap] w fun e w' => e = .returned (.tuple #[]) ∧ w' = w := Any.slices_Sort_string_none Tryd.lays190 p cap w
def Tryd.lays196_ren : Go.Shelf.Ren := ⟨fun | 196 => 118 | 259 => 148 | n => n, fun | 9 => 9 | 4 => 4 | 3 => 3 | 5 => 5 | 12 => 12 | 119 => 180 | 0 => 0 | 46 => 184 | 139 => 183 | 138 => 182 | 53 => 188 | n => n, fun | 3 => 0 | 4 => 1 | n => n⟩
theorem Tryd.lays196 : Go.Proofs.Lays.n196 Tryd.prog Tryd.lays196_ren := {
  mixed := by kernel_rfl
  f196 := Tryd.func118.trans (congrArg some (by kernel_rfl))
  f259 := Tryd.func148.trans (congrArg some (by kernel_rfl))
  t0 := Tryd.underlying0
  a0 := Tryd.isAgg0
  z0 := Tryd.sizeOf0
  v0 := Tryd.zeroValue0
  t3 := Tryd.underlying3
  a3 := Tryd.isAgg3
  z3 := Tryd.sizeOf3
  v3 := Tryd.zeroValue3
  t4 := Tryd.underlying4
  a4 := Tryd.isAgg4
  z4 := Tryd.sizeOf4
  v4 := Tryd.zeroValue4
  t5 := Tryd.underlying5
  a5 := Tryd.isAgg5
  z5 := Tryd.sizeOf5
  v5 := Tryd.zeroValue5
  t9 := Tryd.underlying9
  a9 := Tryd.isAgg9
  z9 := Tryd.sizeOf9
  v9 := Tryd.zeroValue9
  t12 := Tryd.underlying12
  a12 := Tryd.isAgg12
  z12 := Tryd.sizeOf12
  v12 := Tryd.zeroValue12
  t46 := Tryd.underlying184
  a46 := Tryd.isAgg184
  z46 := Tryd.sizeOf184
  v46 := Tryd.zeroValue184
  t53 := Tryd.underlying188
  a53 := Tryd.isAgg188
  z53 := Tryd.sizeOf188
  v53 := Tryd.zeroValue188
  t119 := Tryd.underlying180
  a119 := Tryd.isAgg180
  z119 := Tryd.sizeOf180
  t138 := Tryd.underlying182
  a138 := Tryd.isAgg182
  z138 := Tryd.sizeOf182
  v138 := Tryd.zeroValue182
  t139 := Tryd.underlying183
  a139 := Tryd.isAgg183
  z139 := Tryd.sizeOf183
  v139 := Tryd.zeroValue183
  g3 := by kernel_rfl
  g4 := by kernel_rfl }
open Go.RowKit Go.Lib in
theorem Tryd.utf8_ValidString (s : ByteArray) (w : World) (hs : s.size ≤ 9223372036854775807) (hT : Lib.Utf8Tabs 0 1 w) :
    Calls Tryd.prog 118 #[.string s] w fun e w' => e = .returned (.bool (Lib.validD s.data.toList)) ∧ Below w.heap.size w w' := Any.utf8_ValidString Tryd.lays196 s w hs hT
end Go.Proofs
namespace Go.Proofs.YtiaccdaeomaogaaDoor.F
open Go.RowKit Go.Proofs.YtiaccdaeomaogaaDoorW.PrintWords Go.Proofs.YtiaccdaeomaogaaDoorW.PrintLast Go.Proofs.YtiaccdaeomaogaaDoorW.PrintMore
attribute [local go_sem] max2_int min2_int max_two min_two max_three min_three max_four min_four   -- for this text's walks alone
set_option linter.unusedVariables false
set_option linter.unusedSimpArgs false
def strings_IndexByte.f (a0 : ByteArray) (a1 : Int) : Option Int := some (Lib.indexByte a0.data.toList a1.toNat.toUInt8)
theorem strings_IndexByte.calls (a0 : ByteArray) (a1 : Int) (r : Int) (w : World) (h : strings_IndexByte.f a0 a1 = some r) :
    Calls Tryd.prog 159 #[.string a0, .int .u8 a1] w fun e w' => e = .returned (.int .i64 r) ∧ Drawn0 w w' := by
  obtain rfl := Option.some.inj h
  exact (Tryd.strings_IndexByte a0 a1 w).mono fun e w' ⟨he, hw⟩ => ⟨he, by rw [hw]; exact Drawn0.refl _⟩
mutual
def lex_Class.j0 : Nat → Int → Bool → Option (Int)
  | 0, _, _ => none
  | k + 1, x0, x3 => if x3 = true then (some 1) else (if x0 ≥ 97 then (lex_Class.j1 k x0 (decide (x0 ≤ 122))) else (lex_Class.j1 k x0 false))
def lex_Class.j1 : Nat → Int → Bool → Option (Int)
  | 0, _, _ => none
  | k + 1, x0, x12 => if x12 = true then (lex_Class.j2 k x0 x12) else (if x0 ≥ 65 then (if x0 ≤ 90 then (lex_Class.j2 k x0 (decide (x0 ≤ 90))) else (lex_Class.j2 k x0 (x0 == 95))) else (lex_Class.j2 k x0 (x0 == 95)))
def lex_Class.j2 : Nat → Int → Bool → Option (Int)
  | 0, _, _ => none
  | k + 1, x0, x12 => if x12 = true then (some 2) else (if x0 ≥ 192 then (if x0 ≤ 591 then (if x0 = 215 then (lex_Class.j3 k x0 false) else (lex_Class.j3 k x0 (x0 != 247))) else (lex_Class.j3 k x0 false)) else (lex_Class.j3 k x0 false))
def lex_Class.j3 : Nat → Int → Bool → Option (Int)
  | 0, _, _ => none
  | k + 1, x0, x27 => if x27 = true then (some 2) else (if x0 ≥ 48 then (lex_Class.j4 k x0 (decide (x0 ≤ 57))) else (lex_Class.j4 k x0 false))
def lex_Class.j4 : Nat → Int → Bool → Option (Int)
  | 0, _, _ => none
  | k + 1, x0, x42 => if x42 = true then (some 3) else (if x0 = 34 then (some 5) else (if x0 = 35 then (some 6) else (if x0 > 32 then (if x0 < 127 then ((strings_IndexByte.f (⟨#[40, 41, 123, 125, 44, 59, 58, 61, 43, 45, 42, 47, 37, 60, 62, 33, 38, 124]⟩ : ByteArray) ((x0) % 256)).bind fun t101 => (if t101 ≥ 0 then (some 4) else (some 0))) else (some 0)) else (some 0))))
end
def lex_Class.f (k : Nat) (a0 : Int) : Option (Int) := if a0 = 32 then (lex_Class.j0 k a0 (a0 == 32)) else (if a0 = 9 then (lex_Class.j0 k a0 (a0 == 9)) else (if a0 = 13 then (lex_Class.j0 k a0 (a0 == 13)) else (lex_Class.j0 k a0 (a0 == 10))))
theorem lex_Class.mono_l : ∀ k, (∀ y0 y1, LeO (lex_Class.j0 k y0 y1) (lex_Class.j0 (k + 1) y0 y1)) ∧ (∀ y0 y1, LeO (lex_Class.j1 k y0 y1) (lex_Class.j1 (k + 1) y0 y1)) ∧ (∀ y0 y1, LeO (lex_Class.j2 k y0 y1) (lex_Class.j2 (k + 1) y0 y1)) ∧ (∀ y0 y1, LeO (lex_Class.j3 k y0 y1) (lex_Class.j3 (k + 1) y0 y1)) ∧ (∀ y0 y1, LeO (lex_Class.j4 k y0 y1) (lex_Class.j4 (k + 1) y0 y1))
  | 0 => ⟨fun _ _ r h => by simp [lex_Class.j0] at h, fun _ _ r h => by simp [lex_Class.j1] at h, fun _ _ r h => by simp [lex_Class.j2] at h, fun _ _ r h => by simp [lex_Class.j3] at h, fun _ _ r h => by simp [lex_Class.j4] at h⟩
  | k + 1 => by
    obtain ⟨ih0, ih1, ih2, ih3, ih4⟩ := lex_Class.mono_l k
    refine ⟨?_, ?_, ?_, ?_, ?_⟩
    · intro y0 y1
      unfold lex_Class.j0
      repeat' first
      | (with_reducible exact ih0 _ _)
      | (with_reducible exact ih1 _ _)
      | (with_reducible exact ih2 _ _)
      | (with_reducible exact ih3 _ _)
      | (with_reducible exact ih4 _ _)
      | (with_reducible exact LeO.refl _)
      | (with_reducible exact LeO.none _)
      | (with_reducible refine LeO.ite ?_ ?_)
      | (with_reducible refine LeO.bind ?_ (fun _ => ?_))
      | exact ih0 _ _
      | exact ih1 _ _
      | exact ih2 _ _
      | exact ih3 _ _
      | exact ih4 _ _
      | exact LeO.none _
      | refine LeO.ite ?_ ?_
      | refine LeO.bind ?_ (fun _ => ?_)
    · intro y0 y1
      unfold lex_Class.j1
      repeat' first
      | (with_reducible exact ih0 _ _)
      | (with_reducible exact ih1 _ _)
      | (with_reducible exact ih2 _ _)
      | (with_reducible exact ih3 _ _)
      | (with_reducible exact ih4 _ _)
      | (with_reducible exact LeO.refl _)
      | (with_reducible exact LeO.none _)
      | (with_reducible refine LeO.ite ?_ ?_)
      | (with_reducible refine LeO.bind ?_ (fun _ => ?_))
      | exact ih0 _ _
      | exact ih1 _ _
      | exact ih2 _ _
      | exact ih3 _ _
      | exact ih4 _ _
      | exact LeO.none _
      | refine LeO.ite ?_ ?_
      | refine LeO.bind ?_ (fun _ => ?_)
    · intro y0 y1
      unfold lex_Class.j2
      repeat' first
      | (with_reducible exact ih0 _ _)
      | (with_reducible exact ih1 _ _)
      | (with_reducible exact ih2 _ _)
      | (with_reducible exact ih3 _ _)
      | (with_reducible exact ih4 _ _)
      | (with_reducible exact LeO.refl _)
      | (with_reducible exact LeO.none _)
      | (with_reducible refine LeO.ite ?_ ?_)
      | (with_reducible refine LeO.bind ?_ (fun _ => ?_))
      | exact ih0 _ _
      | exact ih1 _ _
      | exact ih2 _ _
      | exact ih3 _ _
      | exact ih4 _ _
      | exact LeO.none _
      | refine LeO.ite ?_ ?_
      | refine LeO.bind ?_ (fun _ => ?_)
    · intro y0 y1
      unfold lex_Class.j3
      repeat' first
      | (with_reducible exact ih0 _ _)
      | (with_reducible exact ih1 _ _)
      | (with_reducible exact ih2 _ _)
      | (with_reducible exact ih3 _ _)
      | (with_reducible exact ih4 _ _)
      | (with_reducible exact LeO.refl _)
      | (with_reducible exact LeO.none _)
      | (with_reducible refine LeO.ite ?_ ?_)
      | (with_reducible refine LeO.bind ?_ (fun _ => ?_))
      | exact ih0 _ _
      | exact ih1 _ _
      | exact ih2 _ _
      | exact ih3 _ _
      | exact ih4 _ _
      | exact LeO.none _
      | refine LeO.ite ?_ ?_
      | refine LeO.bind ?_ (fun _ => ?_)
    · intro y0 y1
      unfold lex_Class.j4
      repeat' first
      | (with_reducible exact ih0 _ _)
      | (with_reducible exact ih1 _ _)
      | (with_reducible exact ih2 _ _)
      | (with_reducible exact ih3 _ _)
      | (with_reducible exact ih4 _ _)
      | (with_reducible exact LeO.refl _)
      | (with_reducible exact LeO.none _)
      | (with_reducible refine LeO.ite ?_ ?_)
      | (with_reducible refine LeO.bind ?_ (fun _ => ?_))
      | exact ih0 _ _
      | exact ih1 _ _
      | exact ih2 _ _
      | exact ih3 _ _
      | exact ih4 _ _
      | exact LeO.none _
      | refine LeO.ite ?_ ?_
      | refine LeO.bind ?_ (fun _ => ?_)
theorem lex_Class.mono : ∀ a0 k, LeO (lex_Class.f k a0) (lex_Class.f (k + 1) a0) := by
  intro a0 k
  obtain ⟨ih0, ih1, ih2, ih3, ih4⟩ := lex_Class.mono_l k
  unfold lex_Class.f
  repeat' first
      | (with_reducible exact ih0 _ _)
      | (with_reducible exact ih1 _ _)
      | (with_reducible exact ih2 _ _)
      | (with_reducible exact ih3 _ _)
      | (with_reducible exact ih4 _ _)
      | (with_reducible exact LeO.refl _)
      | (with_reducible exact LeO.none _)
      | (with_reducible refine LeO.ite ?_ ?_)
      | (with_reducible refine LeO.bind ?_ (fun _ => ?_))
      | exact ih0 _ _
      | exact ih1 _ _
      | exact ih2 _ _
      | exact ih3 _ _
      | exact ih4 _ _
      | exact LeO.none _
      | refine LeO.ite ?_ ?_
      | refine LeO.bind ?_ (fun _ => ?_)
set_option maxHeartbeats 8000000 in
set_option maxRecDepth 100000 in
theorem lex_Class.calls (k : Nat) (a0 : Int) (r : Int) (w : World) (h : lex_Class.f k a0 = some r) :
    Calls Tryd.prog 149 #[.int .i32 a0] w fun e w' => e = .returned (.int .i64 r) ∧ Drawn0 w w' := by
  have H : (if a0 = 32 then (lex_Class.j0 k a0 (a0 == 32)) else (if a0 = 9 then (lex_Class.j0 k a0 (a0 == 9)) else (if a0 = 13 then (lex_Class.j0 k a0 (a0 == 13)) else (lex_Class.j0 k a0 (a0 == 10))))) = some r := h
  clear h
  have HC2 := Aside0.mk H
  clear H
  go_enter Tryd.func149, Tryd.ntmps149
  go_upto_if 3 with (fail)
  go_cut [3] (fun v3 wc => ∃ (kq : Nat) (x3_1 : Bool), v3 = .bool x3_1 ∧ Aside0 (lex_Class.j0 kq a0 x3_1 = some r) ∧ Aside0 (kq ≤ k) ∧ Drawn0 w wc)
  case first =>
    have H := HC2.out
    clear HC2
    by_cases c3 : a0 = 32
    · rw [if_pos c3] at H
      obtain ⟨c3b0, c3b1⟩ := qe c3
      clear c3
      (first | rw [c3b0] | (simp only [i64_w, i32_w]; rw [c3b0]) | skip)
      have H' := Aside0.mk H
      clear H
      go_wp2
      go_meet
      case rel => exact ⟨_, ((a0 == 32)), qv, H', ql, by repeat (first | exact Drawn0.refl _ | apply Drawn0.step)⟩
    · rw [if_neg c3] at H
      obtain ⟨c3b0, c3b1⟩ := qd c3
      (first | rw [c3b0] | (simp only [i64_w, i32_w]; rw [c3b0]) | skip)
      by_cases c4 : a0 = 9
      · rw [if_pos c4] at H
        obtain ⟨c4b0, c4b1⟩ := qe c4
        clear c4
        have H' := Aside0.mk H
        clear H
        go_wp2
        go_meet
        case rel => exact ⟨_, ((a0 == 9)), qv, H', ql, by repeat (first | exact Drawn0.refl _ | apply Drawn0.step)⟩
      · rw [if_neg c4] at H
        obtain ⟨c4b0, c4b1⟩ := qd c4
        by_cases c5 : a0 = 13
        · rw [if_pos c5] at H
          obtain ⟨c5b0, c5b1⟩ := qe c5
          clear c5
          have H' := Aside0.mk H
          clear H
          go_wp2
          go_meet
          case rel => exact ⟨_, ((a0 == 13)), qv, H', ql, by repeat (first | exact Drawn0.refl _ | apply Drawn0.step)⟩
        · rw [if_neg c5] at H
          obtain ⟨c5b0, c5b1⟩ := qd c5
          have H' := Aside0.mk H
          clear H
          go_wp2
          go_meet
          case rel => exact ⟨_, ((a0 == 10)), qv, H', ql, by repeat (first | exact Drawn0.refl _ | apply Drawn0.step)⟩
  case rest =>
    clear HC2
    obtain ⟨kq, x3_1, rfl, HA, HJ1, ⟨mc1, rfl⟩⟩ := hcut
    cases kq with
    | zero => exact absurd HA.out (by simp [lex_Class.j0])
    | succ kj1 =>
      have H := HA.out
      clear HA
      simp only [lex_Class.j0] at H
      by_cases c6 : x3_1 = true
      · subst c6
        rw [if_pos rfl] at H
        obtain rfl := Option.some.inj H
        go_wp2
        go_ret
        exact ⟨by first | rfl | (simp; done) | (simp [*]; done), by repeat (first | exact Drawn0.refl _ | apply Drawn0.step)⟩
      · replace c6 := Bool.eq_false_iff.mpr c6
        subst c6
        rw [if_neg qf] at H
        have HC7 := Aside0.mk H
        clear H
        go_upto_region 6 with (fail)
        go_cut [12] (fun v12 wc => ∃ (kq : Nat) (x12_6 : Bool), v12 = .bool x12_6 ∧ Aside0 (lex_Class.j1 kq a0 x12_6 = some r) ∧ Aside0 (kq ≤ kj1) ∧ Drawn0 w wc)
        case first =>
          have H := HC7.out
          clear HC7
          by_cases c8 : a0 ≥ 97
          · rw [if_pos c8] at H
            have c8b0 : decide (97 ≤ a0) = true := decide_eq_true c8
            clear c8
            (first | rw [c8b0] | (simp only [i64_w, i32_w]; rw [c8b0]) | skip)
            have H' := Aside0.mk H
            clear H
            go_wp2
            go_meet
            case rel => exact ⟨_, (decide (a0 ≤ 122)), qv, H', ⟨by have := HJ1.out; first | omega | exact Nat.le_refl _⟩, by repeat (first | exact Drawn0.refl _ | apply Drawn0.step)⟩
          · rw [if_neg c8] at H
            have c8b0 : decide (97 ≤ a0) = false := decide_eq_false c8
            clear c8
            (first | rw [c8b0] | (simp only [i64_w, i32_w]; rw [c8b0]) | skip)
            have H' := Aside0.mk H
            clear H
            go_wp2
            go_meet
            case rel => exact ⟨_, (false), qv, H', ⟨by have := HJ1.out; first | omega | exact Nat.le_refl _⟩, by repeat (first | exact Drawn0.refl _ | apply Drawn0.step)⟩
        case rest =>
          clear HC7
          obtain ⟨kq, x12_6, rfl, HA, HJ6, ⟨mc6, rfl⟩⟩ := hcut
          cases kq with
          | zero => exact absurd HA.out (by simp [lex_Class.j1])
          | succ kj6 =>
            have H := HA.out
            clear HA
            simp only [lex_Class.j1] at H
            have HC9 := Aside0.mk H
            clear H
            go_upto_if 12 with (fail)
            go_cut [12] (fun v12 wc => ∃ (kq : Nat) (x12_8 : Bool), v12 = .bool x12_8 ∧ Aside0 (lex_Class.j2 kq a0 x12_8 = some r) ∧ Aside0 (kq ≤ kj6) ∧ Drawn0 w wc)
            case first =>
              have H := HC9.out
              clear HC9
              by_cases c10 : x12_6 = true
              · subst c10
                rw [if_pos rfl] at H
                have H' := Aside0.mk H
                clear H
                go_wp2
                go_meet
                case rel => exact ⟨_, (true), qv, H', ⟨by have := HJ1.out; have := HJ6.out; first | omega | exact Nat.le_refl _⟩, by repeat (first | exact Drawn0.refl _ | apply Drawn0.step)⟩
              · replace c10 := Bool.eq_false_iff.mpr c10
                subst c10
                rw [if_neg qf] at H
                by_cases c11 : a0 ≥ 65
                · rw [if_pos c11] at H
                  have c11b0 : decide (65 ≤ a0) = true := decide_eq_true c11
                  clear c11
                  (first | rw [c11b0] | (simp only [i64_w, i32_w]; rw [c11b0]) | skip)
                  by_cases c12 : a0 ≤ 90
                  · rw [if_pos c12] at H
                    have c12b0 : decide (a0 ≤ 90) = true := decide_eq_true c12
                    clear c12
                    have H' := Aside0.mk H
                    clear H
                    go_wp2
                    go_meet
                    case rel => exact ⟨_, (decide (a0 ≤ 90)), qv, H', ⟨by have := HJ1.out; have := HJ6.out; first | omega | exact Nat.le_refl _⟩, by repeat (first | exact Drawn0.refl _ | apply Drawn0.step)⟩
                  · rw [if_neg c12] at H
                    have c12b0 : decide (a0 ≤ 90) = false := decide_eq_false c12
                    clear c12
                    have H' := Aside0.mk H
                    clear H
                    go_wp2
                    go_meet
                    case rel => exact ⟨_, ((a0 == 95)), qv, H', ⟨by have := HJ1.out; have := HJ6.out; first | omega | exact Nat.le_refl _⟩, by repeat (first | exact Drawn0.refl _ | apply Drawn0.step)⟩
                · rw [if_neg c11] at H
                  have c11b0 : decide (65 ≤ a0) = false := decide_eq_false c11
                  clear c11
                  (first | rw [c11b0] | (simp only [i64_w, i32_w]; rw [c11b0]) | skip)
                  have H' := Aside0.mk H
                  clear H
                  go_wp2
                  go_meet
                  case rel => exact ⟨_, ((a0 == 95)), qv, H', ⟨by have := HJ1.out; have := HJ6.out; first | omega | exact Nat.le_refl _⟩, by repeat (first | exact Drawn0.refl _ | apply Drawn0.step)⟩
            case rest =>
              clear HC9
              obtain ⟨kq, x12_8, rfl, HA, HJ8, ⟨mc8, rfl⟩⟩ := hcut
              cases kq with
              | zero => exact absurd HA.out (by simp [lex_Class.j2])
              | succ kj8 =>
                have H := HA.out
                clear HA
                simp only [lex_Class.j2] at H
                by_cases c13 : x12_8 = true
                · subst c13
                  rw [if_pos rfl] at H
                  obtain rfl := Option.some.inj H
                  go_wp2
                  go_ret
                  exact ⟨by first | rfl | (simp; done) | (simp [*]; done), by repeat (first | exact Drawn0.refl _ | apply Drawn0.step)⟩
                · replace c13 := Bool.eq_false_iff.mpr c13
                  subst c13
                  rw [if_neg qf] at H
                  have HC14 := Aside0.mk H
                  clear H
                  go_upto_region 10 with (fail)
                  go_cut [27] (fun v27 wc => ∃ (kq : Nat) (x27_13 : Bool), v27 = .bool x27_13 ∧ Aside0 (lex_Class.j3 kq a0 x27_13 = some r) ∧ Aside0 (kq ≤ kj8) ∧ Drawn0 w wc)
                  case first =>
                    have H := HC14.out
                    clear HC14
                    by_cases c15 : a0 ≥ 192
                    · rw [if_pos c15] at H
                      have c15b0 : decide (192 ≤ a0) = true := decide_eq_true c15
                      clear c15
                      (first | rw [c15b0] | (simp only [i64_w, i32_w]; rw [c15b0]) | skip)
                      by_cases c16 : a0 ≤ 591
                      · rw [if_pos c16] at H
                        have c16b0 : decide (a0 ≤ 591) = true := decide_eq_true c16
                        clear c16
                        by_cases c17 : a0 = 215
                        · rw [if_pos c17] at H
                          obtain ⟨c17b0, c17b1⟩ := qe c17
                          clear c17
                          have H' := Aside0.mk H
                          clear H
                          go_wp2
                          go_meet
                          case rel => exact ⟨_, (false), qv, H', ⟨by have := HJ1.out; have := HJ6.out; have := HJ8.out; first | omega | exact Nat.le_refl _⟩, by repeat (first | exact Drawn0.refl _ | apply Drawn0.step)⟩
                        · rw [if_neg c17] at H
                          obtain ⟨c17b0, c17b1⟩ := qd c17
                          have H' := Aside0.mk H
                          clear H
                          go_wp2
                          go_meet
                          case rel => exact ⟨_, ((a0 != 247)), qv, H', ⟨by have := HJ1.out; have := HJ6.out; have := HJ8.out; first | omega | exact Nat.le_refl _⟩, by repeat (first | exact Drawn0.refl _ | apply Drawn0.step)⟩
                      · rw [if_neg c16] at H
                        have c16b0 : decide (a0 ≤ 591) = false := decide_eq_false c16
                        clear c16
                        have H' := Aside0.mk H
                        clear H
                        go_wp2
                        go_meet
                        case rel => exact ⟨_, (false), qv, H', ⟨by have := HJ1.out; have := HJ6.out; have := HJ8.out; first | omega | exact Nat.le_refl _⟩, by repeat (first | exact Drawn0.refl _ | apply Drawn0.step)⟩
                    · rw [if_neg c15] at H
                      have c15b0 : decide (192 ≤ a0) = false := decide_eq_false c15
                      clear c15
                      (first | rw [c15b0] | (simp only [i64_w, i32_w]; rw [c15b0]) | skip)
                      have H' := Aside0.mk H
                      clear H
                      go_wp2
                      go_meet
                      case rel => exact ⟨_, (false), qv, H', ⟨by have := HJ1.out; have := HJ6.out; have := HJ8.out; first | omega | exact Nat.le_refl _⟩, by repeat (first | exact Drawn0.refl _ | apply Drawn0.step)⟩
                  case rest =>
                    clear HC14
                    obtain ⟨kq, x27_13, rfl, HA, HJ13, ⟨mc13, rfl⟩⟩ := hcut
                    cases kq with
                    | zero => exact absurd HA.out (by simp [lex_Class.j3])
                    | succ kj13 =>
                      have H := HA.out
                      clear HA
                      simp only [lex_Class.j3] at H
                      by_cases c18 : x27_13 = true
                      · subst c18
                        rw [if_pos rfl] at H
                        obtain rfl := Option.some.inj H
                        go_wp2
                        go_ret
                        exact ⟨by first | rfl | (simp; done) | (simp [*]; done), by repeat (first | exact Drawn0.refl _ | apply Drawn0.step)⟩
                      · replace c18 := Bool.eq_false_iff.mpr c18
                        subst c18
                        rw [if_neg qf] at H
                        have HC19 := Aside0.mk H
                        clear H
                        go_upto_region 12 with (fail)
                        go_cut [42] (fun v42 wc => ∃ (kq : Nat) (x42_18 : Bool), v42 = .bool x42_18 ∧ Aside0 (lex_Class.j4 kq a0 x42_18 = some r) ∧ Aside0 (kq ≤ kj13) ∧ Drawn0 w wc)
                        case first =>
                          have H := HC19.out
                          clear HC19
                          by_cases c20 : a0 ≥ 48
                          · rw [if_pos c20] at H
                            have c20b0 : decide (48 ≤ a0) = true := decide_eq_true c20
                            clear c20
                            (first | rw [c20b0] | (simp only [i64_w, i32_w]; rw [c20b0]) | skip)
                            have H' := Aside0.mk H
                            clear H
                            go_wp2
                            go_meet
                            case rel => exact ⟨_, (decide (a0 ≤ 57)), qv, H', ⟨by have := HJ1.out; have := HJ6.out; have := HJ8.out; have := HJ13.out; first | omega | exact Nat.le_refl _⟩, by repeat (first | exact Drawn0.refl _ | apply Drawn0.step)⟩
                          · rw [if_neg c20] at H
                            have c20b0 : decide (48 ≤ a0) = false := decide_eq_false c20
                            clear c20
                            (first | rw [c20b0] | (simp only [i64_w, i32_w]; rw [c20b0]) | skip)
                            have H' := Aside0.mk H
                            clear H
                            go_wp2
                            go_meet
                            case rel => exact ⟨_, (false), qv, H', ⟨by have := HJ1.out; have := HJ6.out; have := HJ8.out; have := HJ13.out; first | omega | exact Nat.le_refl _⟩, by repeat (first | exact Drawn0.refl _ | apply Drawn0.step)⟩
                        case rest =>
                          clear HC19
                          obtain ⟨kq, x42_18, rfl, HA, HJ18, ⟨mc18, rfl⟩⟩ := hcut
                          cases kq with
                          | zero => exact absurd HA.out (by simp [lex_Class.j4])
                          | succ kj18 =>
                            have H := HA.out
                            clear HA
                            simp only [lex_Class.j4] at H
                            by_cases c21 : x42_18 = true
                            · subst c21
                              rw [if_pos rfl] at H
                              obtain rfl := Option.some.inj H
                              go_wp2
                              go_ret
                              exact ⟨by first | rfl | (simp; done) | (simp [*]; done), by repeat (first | exact Drawn0.refl _ | apply Drawn0.step)⟩
                            · replace c21 := Bool.eq_false_iff.mpr c21
                              subst c21
                              rw [if_neg qf] at H
                              by_cases c22 : a0 = 34
                              · rw [if_pos c22] at H
                                obtain ⟨c22b0, c22b1⟩ := qe c22
                                clear c22
                                obtain rfl := Option.some.inj H
                                go_wp2
                                go_ret
                                exact ⟨by first | rfl | (simp; done) | (simp [*]; done), by repeat (first | exact Drawn0.refl _ | apply Drawn0.step)⟩
                              · rw [if_neg c22] at H
                                obtain ⟨c22b0, c22b1⟩ := qd c22
                                by_cases c23 : a0 = 35
                                · rw [if_pos c23] at H
                                  obtain ⟨c23b0, c23b1⟩ := qe c23
                                  clear c23
                                  obtain rfl := Option.some.inj H
                                  go_wp2
                                  go_ret
                                  exact ⟨by first | rfl | (simp; done) | (simp [*]; done), by repeat (first | exact Drawn0.refl _ | apply Drawn0.step)⟩
                                · rw [if_neg c23] at H
                                  obtain ⟨c23b0, c23b1⟩ := qd c23
                                  by_cases c24 : a0 > 32
                                  · rw [if_pos c24] at H
                                    have c24b0 : decide (32 < a0) = true := decide_eq_true c24
                                    clear c24
                                    by_cases c25 : a0 < 127
                                    · rw [if_pos c25] at H
                                      have c25b0 : decide (a0 < 127) = true := decide_eq_true c25
                                      clear c25
                                      replace H := qi H
                                      obtain ⟨t101, A26, H⟩ := H
                                      by_cases c27 : t101 ≥ 0
                                      · rw [if_pos c27] at H
                                        have c27b0 : decide (0 ≤ t101) = true := decide_eq_true c27
                                        clear c27
                                        obtain rfl := Option.some.inj H
                                        go_wp2_with (first | (go_at_call 159; (with_reducible refine (strings_IndexByte.calls (⟨#[40, 41, 123, 125, 44, 59, 58, 61, 43, 45, 42, 47, 37, 60, 62, 33, 38, 124]⟩ : ByteArray) ((a0) % 256) t101 _ A26.out).mono ?_); rintro e w' ⟨rfl, ⟨nd, rfl⟩⟩))
                                        go_ret
                                        exact ⟨by first | rfl | (simp; done) | (simp [*]; done), by repeat (first | exact Drawn0.refl _ | apply Drawn0.step)⟩
                                      · rw [if_neg c27] at H
                                        have c27b0 : decide (0 ≤ t101) = false := decide_eq_false c27
                                        clear c27
                                        obtain rfl := Option.some.inj H
                                        go_wp2_with (first | (go_at_call 159; (with_reducible refine (strings_IndexByte.calls (⟨#[40, 41, 123, 125, 44, 59, 58, 61, 43, 45, 42, 47, 37, 60, 62, 33, 38, 124]⟩ : ByteArray) ((a0) % 256) t101 _ A26.out).mono ?_); rintro e w' ⟨rfl, ⟨nd, rfl⟩⟩))
                                        go_ret
                                        exact ⟨by first | rfl | (simp; done) | (simp [*]; done), by repeat (first | exact Drawn0.refl _ | apply Drawn0.step)⟩
                                    · rw [if_neg c25] at H
                                      have c25b0 : decide (a0 < 127) = false := decide_eq_false c25
                                      clear c25
                                      obtain rfl := Option.some.inj H
                                      go_wp2
                                      go_ret
                                      exact ⟨by first | rfl | (simp; done) | (simp [*]; done), by repeat (first | exact Drawn0.refl _ | apply Drawn0.step)⟩
                                  · rw [if_neg c24] at H
                                    have c24b0 : decide (32 < a0) = false := decide_eq_false c24
                                    clear c24
                                    obtain rfl := Option.some.inj H
                                    go_wp2
                                    go_ret
                                    exact ⟨by first | rfl | (simp; done) | (simp [*]; done), by repeat (first | exact Drawn0.refl _ | apply Drawn0.step)⟩
theorem Class_j4 (k : Nat) (r : Int) (b : Bool) : ∃ c, lex_Class.j4 (k + 1) r b = some c := by
  simp only [lex_Class.j4, strings_IndexByte.f, Option.bind_some]
  repeat' split
  all_goals exact ⟨_, rfl⟩
theorem Class_j3 (k : Nat) (r : Int) (b : Bool) : ∃ c, lex_Class.j3 (k + 2) r b = some c := by
  simp only [lex_Class.j3]
  repeat' split
  all_goals first | exact ⟨_, rfl⟩ | exact Class_j4 _ _ _
theorem Class_j2 (k : Nat) (r : Int) (b : Bool) : ∃ c, lex_Class.j2 (k + 3) r b = some c := by
  simp only [lex_Class.j2]
  repeat' split
  all_goals first | exact ⟨_, rfl⟩ | exact Class_j3 _ _ _
theorem Class_j1 (k : Nat) (r : Int) (b : Bool) : ∃ c, lex_Class.j1 (k + 4) r b = some c := by
  simp only [lex_Class.j1]
  repeat' split
  all_goals exact Class_j2 _ _ _
theorem Class_j0 (k : Nat) (r : Int) (b : Bool) : ∃ c, lex_Class.j0 (k + 5) r b = some c := by
  simp only [lex_Class.j0]
  repeat' split
  all_goals first | exact ⟨_, rfl⟩ | exact Class_j1 _ _ _
theorem Class_total (r : Int) : ∃ c, lex_Class.f 5 r = some c := by
  unfold lex_Class.f
  repeat' split
  all_goals exact Class_j0 0 _ _
def classN (r : Int) : Int := (lex_Class.f 5 r).getD 0
theorem class_some (r : Int) : lex_Class.f 5 r = some (classN r) := by
  obtain ⟨c, h⟩ := Class_total r
  unfold classN
  rw [h]; rfl
def wordB (r : Int) : Bool := classN r == 2 || classN r == 3
def wordyFrom (s : ByteArray) : Nat → Nat → Bool
  | 0, _ => true
  | g + 1, pos => if pos < s.size then (if wordB ((Utf8.decode s pos).1 : Int) = true then wordyFrom s g (pos + (Utf8.decode s pos).2) else false) else true
theorem wordyFrom_end (s : ByteArray) (g pos : Nat) (h : ¬ pos < s.size) : wordyFrom s g pos = true := by
  cases g <;> simp [wordyFrom, h]
def lex_wordy.f (a0 : ByteArray) : Option Bool := some (wordyFrom a0 a0.size 0 && !a0.toList.isEmpty)
set_option maxHeartbeats 4000000 in
set_option maxRecDepth 100000 in
theorem lex_wordy.calls (a0 : ByteArray) (r : Bool) (w : World) (h : lex_wordy.f a0 = some r) :
    Calls Tryd.prog 119 #[.string a0] w fun e w' => e = .returned (.bool r) ∧ Below w.heap.size w w' := by
  obtain rfl := Option.some.inj h
  clear h
  obtain ⟨R, hR⟩ : ∃ R, wordyFrom a0 a0.size 0 = R := ⟨_, rfl⟩
  rw [hR]
  obtain ⟨n0, hn0⟩ : ∃ n0, n0 = a0.size := ⟨_, rfl⟩
  have HR := Aside0.mk hR
  clear hR
  go_enter Tryd.func119, Tryd.ntmps119
  go_wp2
  go_loopg [] a0.size (fun gf wx => ∃ pos : Nat, Aside0 (wx.heap[w.heap.size]? = some (.stringIter a0 pos)) ∧ Aside0 (Below w.heap.size w wx) ∧ Aside0 (wordyFrom a0 gf pos = R) ∧ Aside0 (a0.size ≤ pos + gf))
  case atStart => exact ⟨0, ⟨World.iter_heap w a0 0⟩, ⟨(Below.refl _ w).alloc (Nat.le_refl _) _⟩, HR, ⟨by omega⟩⟩
  case round =>
    obtain ⟨pos, hit, hbw, hleft, hfu⟩ := hrel
    by_cases hps : pos < a0.size
    · obtain ⟨g', rfl⟩ : ∃ g', gk = g' + 1 := ⟨gk - 1, by have := hfu.out; omega⟩
      have hnx : ∀ ty, (Instr.next (.pointer (some ⟨w.heap.size, 0, none⟩)) true ty).run Tryd.prog wr = _ := fun ty => Lib.run_next_any_at wr w.heap.size a0 pos ty hit.out hps
      have hwd := Lib.width_pos a0 pos
      obtain ⟨Q, hQ⟩ : ∃ Q, (Utf8.decode a0 pos).1 = Q := ⟨_, rfl⟩
      obtain ⟨K, hK⟩ : ∃ K, (Utf8.decode a0 pos).2 = K := ⟨_, rfl⟩
      have hl := hleft.out
      simp only [wordyFrom, hps, if_true, hQ, hK] at hl
      rw [hQ, hK] at hnx
      rw [hK] at hwd
      have hit2 := Aside0.mk (Lib.iterAt_heap wr w.heap.size a0 pos (pos + K) hit.out)
      have hbw2 := Aside0.mk (Lib.below_iterAt hbw.out (k := w.heap.size) (Nat.le_refl _) a0 (pos + K))
      have hfu2 : Aside0 (a0.size ≤ pos + K + g') := ⟨by have := hfu.out; omega⟩
      obtain ⟨W, hWd⟩ : ∃ W, wr.iterAt w.heap.size a0 (pos + K) = W := ⟨_, rfl⟩
      rw [hWd] at hnx hit2 hbw2
      obtain ⟨c, hc⟩ : ∃ c, classN (Q : Int) = c := ⟨_, rfl⟩
      have HC := Aside0.mk ((class_some (Q : Int)).trans (congrArg some hc))
      unfold wordB at hl
      rw [hc] at hl
      clear hit hbw hleft hfu hwd hWd hps hc hQ hK
      by_cases h2 : c = 2
      · subst h2
        have HL : Aside0 (wordyFrom a0 g' (pos + K) = R) := ⟨by simpa using hl⟩
        clear hl
        go_wp2_with (first | (go_at_call 149; refine (lex_Class.calls 5 _ 2 _ HC.out).mono ?_; rintro e w' ⟨rfl, ⟨nd, rfl⟩⟩))
        go_roundg g'
        case measure => omega
        case rel => exact ⟨pos + K, hit2, ⟨pw_below_drewN hbw2.out _⟩, HL, hfu2⟩
      · by_cases h3 : c = 3
        · subst h3
          have HL : Aside0 (wordyFrom a0 g' (pos + K) = R) := ⟨by simpa using hl⟩
          clear hl
          go_wp2_with (first | (go_at_call 149; refine (lex_Class.calls 5 _ 3 _ HC.out).mono ?_; rintro e w' ⟨rfl, ⟨nd, rfl⟩⟩))
          go_roundg g'
          case measure => omega
          case rel => exact ⟨pos + K, hit2, ⟨pw_below_drewN hbw2.out _⟩, HL, hfu2⟩
        · have HL : R = false := by simpa [h2, h3] using hl.symm
          subst HL
          have d2 : (c == 2) = false := beq_eq_false_iff_ne.mpr h2
          have d3 : (c == 3) = false := beq_eq_false_iff_ne.mpr h3
          have d4 : (c != 2) = true := bne_iff_ne.mpr h2
          have d5 : (c != 3) = true := bne_iff_ne.mpr h3
          clear hl h2 h3
          go_wp2_with (first | (go_at_call 149; refine (lex_Class.calls 5 _ c _ HC.out).mono ?_; rintro e w' ⟨rfl, ⟨nd, rfl⟩⟩))
          go_ret
          exact ⟨rfl, pw_below_drewN hbw2.out _⟩
    · have hnx : ∀ ty, (Instr.next (.pointer (some ⟨w.heap.size, 0, none⟩)) true ty).run Tryd.prog wr = _ := fun ty => Lib.run_next_end_at wr w.heap.size a0 pos ty hit.out hps
      have HL : R = true := by rw [← hleft.out]; exact wordyFrom_end a0 gk pos hps
      subst HL
      clear hleft hfu hps
      go_wp2
      go_ret
      exact ⟨by first | rfl | (simp; done), hbw.out⟩
def utf8_RuneCountInString.f (a0 : ByteArray) : Option Int := if a0.size < 9223372036854775807 then some (Lib.runeCount a0 : Int) else none
theorem below_iter0 (w : World) (s : ByteArray) (pos : Nat) : Below w.heap.size w (w.iter s pos) := (Below.refl _ w).alloc (Nat.le_refl _) _
theorem utf8_RuneCountInString.calls (a0 : ByteArray) (r : Int) (w : World) (h : utf8_RuneCountInString.f a0 = some r) :
  Calls Tryd.prog 120 #[.string a0] w fun e w' => e = .returned (.int .i64 r) ∧ Below w.heap.size w w' := by
 unfold utf8_RuneCountInString.f at h
 split at h
 ·rename_i hs
  obtain rfl := Option.some.inj h
  exact (Tryd.utf8_RuneCountInString a0 w hs).mono fun e w' ⟨he, pos, hw⟩ => ⟨he, by rw [hw]; exact below_iter0 w a0 pos⟩
 ·cases h
def UT (w : World) : Prop := Lib.Utf8Tabs 0 1 w
theorem UT.below {w w' : World} (h : UT w) (hb : Below w.heap.size w w') : UT w' := Utf8Tabs_below h hb
def utf8_ValidString.f (a0 : ByteArray) : Option Bool := if a0.size < 9223372036854775807 then some (Lib.validD a0.data.toList) else none
theorem utf8_ValidString.calls (a0 : ByteArray) (r : Bool) (w : World) (h : utf8_ValidString.f a0 = some r) (hT : UT w) :
  Calls Tryd.prog 118 #[.string a0] w fun e w' => e = .returned (.bool r) ∧ Below w.heap.size w w' := by
 unfold utf8_ValidString.f at h
 split at h
 ·obtain rfl := Option.some.inj h
  exact Tryd.utf8_ValidString a0 w (by omega) hT
 ·cases h
def lex_Name.f (a0 : ByteArray) : Option (Bool) := (utf8_ValidString.f a0).bind fun t101 => (if t101 = true then ((lex_wordy.f a0).bind fun t102 => (if t102 = true then (if 0 < (a0.size : Int) then (if (bt a0 0) < 48 then ((utf8_RuneCountInString.f a0).bind fun t103 => (some (decide (t103 ≤ 12)))) else (if (bt a0 0) > 57 then ((utf8_RuneCountInString.f a0).bind fun t104 => (some (decide (t104 ≤ 12)))) else (some false))) else (none)) else (some false))) else (some false))
set_option maxHeartbeats 8000000 in
set_option maxRecDepth 100000 in
theorem lex_Name.calls (a0 : ByteArray) (r : Bool) (w : World) (h : lex_Name.f a0 = some r) (hT : UT w) :
  Calls Tryd.prog 91 #[.string a0] w fun e w' => e = .returned (.bool r) ∧ Below w.heap.size w w' := by
 have HT0 := Aside0.mk hT
 clear hT
 have HB := Aside0.mk (Below.refl w.heap.size w)
 have H : ((utf8_ValidString.f a0).bind fun t101 => (if t101 = true then ((lex_wordy.f a0).bind fun t102 => (if t102 = true then (if 0 < (a0.size : Int) then (if (bt a0 0) < 48 then ((utf8_RuneCountInString.f a0).bind fun t103 => (some (decide (t103 ≤ 12)))) else (if (bt a0 0) > 57 then ((utf8_RuneCountInString.f a0).bind fun t104 => (some (decide (t104 ≤ 12)))) else (some false))) else (none)) else (some false))) else (some false))) = some r := h
 clear h
 replace H := qi H
 obtain ⟨t101, A2, H⟩ := H
 by_cases c3 : t101 = true
 ·subst c3
  rw [if_pos rfl] at H
  replace H := qi H
  obtain ⟨t102, A4, H⟩ := H
  by_cases c5 : t102 = true
  ·subst c5
   rw [if_pos rfl] at H
   by_cases c6 : 0 < (a0.size : Int)
   ·rw [if_pos c6] at H
    have c6b0 : decide (0 < (a0.size : Int)) = true := decide_eq_true c6
    have c6b1 : decide (0 < a0.size) = true := decide_eq_true (by omega)
    clear c6
    by_cases c8 : (bt a0 0) < 48
    ·rw [if_pos c8] at H
     have c8b0 : decide ((bt a0 0) < 48) = true := decide_eq_true c8
     clear c8
     replace H := qi H
     obtain ⟨t103, A9, H⟩ := H
     obtain rfl := Option.some.inj H
     go_enter Tryd.func91, Tryd.ntmps91
     go_wp2_with (first | ((with_reducible refine gate_callee (f := 118) rfl ?_); refine goesL_ (some 4) rfl rfl Tryd.func118 (by kernel_rfl) rfl #[.string a0] rfl qm ?_; (with_reducible refine (utf8_ValidString.calls a0 true _ A2.out (by first | exact HT0.out | exact UT.below HT0.out qb)).mono ?_); rintro e w10 ⟨rfl, hb⟩; refine ⟨_, rfl, ?_⟩; have n0_ := qs hb; clear HB; have HB := n0_; clear n0_; (try clear hb)) | (go_at_call 119; (with_reducible refine (lex_wordy.calls a0 true _ A4.out).mono ?_); rintro e w11 ⟨rfl, hb⟩; have n0_ := qs hb; clear HB; have HB := n0_; clear n0_; (try clear hb); have p7 : 0 ≤ (0 : Int) := (by omega); have q7 : 0 < a0.size := (by have : (0 : Int) < (a0.size : Int) := qa; omega); have hx7 : ∀ h : 0 < a0.size, ((a0[0]'h).toNat : Int) = bt a0 0 := bt_at a0 0; clear p7; have qi7 : (0 < (a0.size : Int)) = True := eq_true (qa); replace q7 := eq_true q7) | (go_at_call 120; (with_reducible refine (utf8_RuneCountInString.calls a0 t103 _ A9.out).mono ?_); rintro e w12 ⟨rfl, hb⟩; have n0_ := qs hb; clear HB; have HB := n0_; clear n0_; (try clear hb)))
     go_ret
     exact qr
    ·rw [if_neg c8] at H
     have c8b0 : decide ((bt a0 0) < 48) = false := decide_eq_false c8
     clear c8
     by_cases c14 : (bt a0 0) > 57
     ·rw [if_pos c14] at H
      have c14b0 : decide (57 < (bt a0 0)) = true := decide_eq_true c14
      clear c14
      replace H := qi H
      obtain ⟨t104, A15, H⟩ := H
      obtain rfl := Option.some.inj H
      go_enter Tryd.func91, Tryd.ntmps91
      go_wp2_with (first | ((with_reducible refine gate_callee (f := 118) rfl ?_); refine goesL_ (some 4) rfl rfl Tryd.func118 (by kernel_rfl) rfl #[.string a0] rfl qm ?_; (with_reducible refine (utf8_ValidString.calls a0 true _ A2.out (by first | exact HT0.out | exact UT.below HT0.out qb)).mono ?_); rintro e w16 ⟨rfl, hb⟩; refine ⟨_, rfl, ?_⟩; have n0_ := qs hb; clear HB; have HB := n0_; clear n0_; (try clear hb)) | (go_at_call 119; (with_reducible refine (lex_wordy.calls a0 true _ A4.out).mono ?_); rintro e w17 ⟨rfl, hb⟩; have n0_ := qs hb; clear HB; have HB := n0_; clear n0_; (try clear hb); have p7 : 0 ≤ (0 : Int) := (by omega); have q7 : 0 < a0.size := (by have : (0 : Int) < (a0.size : Int) := qa; omega); have hx7 : ∀ h : 0 < a0.size, ((a0[0]'h).toNat : Int) = bt a0 0 := bt_at a0 0; clear p7; have qi7 : (0 < (a0.size : Int)) = True := eq_true (qa); replace q7 := eq_true q7; have p13 : 0 ≤ (0 : Int) := (by omega); have q13 : 0 < a0.size := (by have : (0 : Int) < (a0.size : Int) := qa; omega); have hx13 : ∀ h : 0 < a0.size, ((a0[0]'h).toNat : Int) = bt a0 0 := bt_at a0 0; clear p13; have qi13 : (0 < (a0.size : Int)) = True := eq_true (qa); replace q13 := eq_true q13) | (go_at_call 120; (with_reducible refine (utf8_RuneCountInString.calls a0 t104 _ A15.out).mono ?_); rintro e w18 ⟨rfl, hb⟩; have n0_ := qs hb; clear HB; have HB := n0_; clear n0_; (try clear hb)))
      go_ret
      exact qr
     ·rw [if_neg c14] at H
      have c14b0 : decide (57 < (bt a0 0)) = false := decide_eq_false c14
      clear c14
      obtain rfl := Option.some.inj H
      go_enter Tryd.func91, Tryd.ntmps91
      go_wp2_with (first | ((with_reducible refine gate_callee (f := 118) rfl ?_); refine goesL_ (some 4) rfl rfl Tryd.func118 (by kernel_rfl) rfl #[.string a0] rfl qm ?_; (with_reducible refine (utf8_ValidString.calls a0 true _ A2.out (by first | exact HT0.out | exact UT.below HT0.out qb)).mono ?_); rintro e w19 ⟨rfl, hb⟩; refine ⟨_, rfl, ?_⟩; have n0_ := qs hb; clear HB; have HB := n0_; clear n0_; (try clear hb)) | (go_at_call 119; (with_reducible refine (lex_wordy.calls a0 true _ A4.out).mono ?_); rintro e w20 ⟨rfl, hb⟩; have n0_ := qs hb; clear HB; have HB := n0_; clear n0_; (try clear hb); have p7 : 0 ≤ (0 : Int) := (by omega); have q7 : 0 < a0.size := (by have : (0 : Int) < (a0.size : Int) := qa; omega); have hx7 : ∀ h : 0 < a0.size, ((a0[0]'h).toNat : Int) = bt a0 0 := bt_at a0 0; clear p7; have qi7 : (0 < (a0.size : Int)) = True := eq_true (qa); replace q7 := eq_true q7; have p13 : 0 ≤ (0 : Int) := (by omega); have q13 : 0 < a0.size := (by have : (0 : Int) < (a0.size : Int) := qa; omega); have hx13 : ∀ h : 0 < a0.size, ((a0[0]'h).toNat : Int) = bt a0 0 := bt_at a0 0; clear p13; have qi13 : (0 < (a0.size : Int)) = True := eq_true (qa); replace q13 := eq_true q13))
      go_ret
      exact qr
   ·rw [if_neg c6] at H
    exact absurd H (by simp)
  ·replace c5 := Bool.eq_false_iff.mpr c5
   subst c5
   rw [if_neg qf] at H
   obtain rfl := Option.some.inj H
   go_enter Tryd.func91, Tryd.ntmps91
   go_wp2_with (first | ((with_reducible refine gate_callee (f := 118) rfl ?_); refine goesL_ (some 4) rfl rfl Tryd.func118 (by kernel_rfl) rfl #[.string a0] rfl qm ?_; (with_reducible refine (utf8_ValidString.calls a0 true _ A2.out (by first | exact HT0.out | exact UT.below HT0.out qb)).mono ?_); rintro e w21 ⟨rfl, hb⟩; refine ⟨_, rfl, ?_⟩; have n0_ := qs hb; clear HB; have HB := n0_; clear n0_; (try clear hb)) | (go_at_call 119; (with_reducible refine (lex_wordy.calls a0 false _ A4.out).mono ?_); rintro e w22 ⟨rfl, hb⟩; have n0_ := qs hb; clear HB; have HB := n0_; clear n0_; (try clear hb)))
   go_ret
   exact qr
 ·replace c3 := Bool.eq_false_iff.mpr c3
  subst c3
  rw [if_neg qf] at H
  obtain rfl := Option.some.inj H
  go_enter Tryd.func91, Tryd.ntmps91
  go_wp2_with (first | ((with_reducible refine gate_callee (f := 118) rfl ?_); refine goesL_ (some 4) rfl rfl Tryd.func118 (by kernel_rfl) rfl #[.string a0] rfl qm ?_; (with_reducible refine (utf8_ValidString.calls a0 false _ A2.out (by first | exact HT0.out | exact UT.below HT0.out qb)).mono ?_); rintro e w23 ⟨rfl, hb⟩; refine ⟨_, rfl, ?_⟩; have n0_ := qs hb; clear HB; have HB := n0_; clear n0_; (try clear hb)))
  go_ret
  exact qr
mutual
def expr_tokens.j1 : Nat → Int → Int → Int → Int → ByteArray → List (S34) → Option (Int)
  | 0, _, _, _, _, _, _ => none
  | k + 1, x1, x5, x102000, x102001, x102002, x102003 => if x102000 < 0 then (expr_tokens.j2 k x1 true x102000 x102001 x102002 x102003) else (if x102000 > 16 then (expr_tokens.j2 k x1 true x102000 x102001 x102002 x102003) else (if x102001 = 0 then (if x102002.toList = ([] : List UInt8) then (if (x102003.length : Int) = x5 then (expr_tokens.j2 k x1 (decide (x1 < 1)) x102000 x102001 x102002 x102003) else (expr_tokens.j2 k x1 true x102000 x102001 x102002 x102003)) else (expr_tokens.j2 k x1 true x102000 x102001 x102002 x102003)) else (expr_tokens.j2 k x1 true x102000 x102001 x102002 x102003)))
def expr_tokens.j2 : Nat → Int → Bool → Int → Int → ByteArray → List (S34) → Option (Int)
  | 0, _, _, _, _, _, _ => none
  | k + 1, x1, x81, x102000, x102001, x102002, x102003 => if x81 = true then (some (-1)) else (expr_tokens.l0 k x1 1 x102003 (x102003.length : Int) 0 x102000 x102001 x102002 x102003)
def expr_tokens.l0 : Nat → Int → Int → List (S34) → Int → Int → Int → Int → ByteArray → List (S34) → Option (Int)
  | 0, _, _, _, _, _, _, _, _, _ => none
  | k + 1, x1, x6, x83, x84, x85, x102000, x102001, x102002, x102003 => if x85 < x84 then (if 0 ≤ x85 then (if x85 < (x83.length : Int) then ((expr_tokens.f k ((rd_T34 x83 x85).f0) ((rd_T34 x83 x85).f1) ((rd_T34 x83 x85).f2) ((rd_T34 x83 x85).f3) (wrap64 (x1 - x6))).bind fun t106 => (if t106 < 0 then (some (-1)) else ((expr_wrapped.f k x102000 x102001 x102002 x102003 x85).bind fun t107 => (if t107 = true then (if (wrap64 ((wrap64 (x6 + t106)) + 2)) > x1 then (some (-1)) else (expr_tokens.l0 k x1 (wrap64 ((wrap64 (x6 + t106)) + 2)) x83 x84 (wrap64 (x85 + 1)) x102000 x102001 x102002 x102003)) else (if (wrap64 (x6 + t106)) > x1 then (some (-1)) else (expr_tokens.l0 k x1 (wrap64 (x6 + t106)) x83 x84 (wrap64 (x85 + 1)) x102000 x102001 x102002 x102003)))))) else (none)) else (none)) else (some x6)
def expr_tokens.j0 : Nat → Int → Int → Int → Bool → Int → Int → ByteArray → List (S34) → Option (Int)
  | 0, _, _, _, _, _, _, _, _ => none
  | k + 1, x1, x5, x11, x12, x102000, x102001, x102002, x102003 => if x12 = true then (if (x102003.length : Int) > 0 then (some (-1)) else (if x102000 = 0 then (if x102001 < 0 then (some (-1)) else (if x102002.toList = ([] : List UInt8) then (if x102000 = 1 then (if x102001 = 0 then ((lex_Name.f x102002).bind fun t102 => (if t102 = true then (some 1) else (some (-1)))) else (some (-1))) else (some 1)) else (some (-1)))) else (if x102000 = 1 then (if x102001 = 0 then ((lex_Name.f x102002).bind fun t103 => (if t103 = true then (some 1) else (some (-1)))) else (some (-1))) else (some 1)))) else (if x11 = 2 then (expr_tokens.j1 k x1 1 x102000 x102001 x102002 x102003) else (if x11 = 3 then (expr_tokens.j1 k x1 1 x102000 x102001 x102002 x102003) else (expr_tokens.j1 k x1 x5 x102000 x102001 x102002 x102003)))
def expr_tokens.f : Nat → Int → Int → ByteArray → List (S34) → Int → Option (Int)
  | 0, _, _, _, _, _ => none
  | k + 1, a0_0, a0_1, a0_2, l0_3, a1 => if a0_0 = 0 then (expr_tokens.j0 k a1 2 a0_0 (a0_0 == 0) a0_0 a0_1 a0_2 l0_3) else (expr_tokens.j0 k a1 2 a0_0 (a0_0 == 1) a0_0 a0_1 a0_2 l0_3)
end
theorem expr_tokens.mono_l : ∀ k, (∀ y0 y1 y2 y3 y4, LeO (expr_tokens.f k y0 y1 y2 y3 y4) (expr_tokens.f (k + 1) y0 y1 y2 y3 y4)) ∧ (∀ y0 y1 y2 y3 y4 y5, LeO (expr_tokens.j1 k y0 y1 y2 y3 y4 y5) (expr_tokens.j1 (k + 1) y0 y1 y2 y3 y4 y5)) ∧ (∀ y0 y1 y2 y3 y4 y5, LeO (expr_tokens.j2 k y0 y1 y2 y3 y4 y5) (expr_tokens.j2 (k + 1) y0 y1 y2 y3 y4 y5)) ∧ (∀ y0 y1 y2 y3 y4 y5 y6 y7 y8, LeO (expr_tokens.l0 k y0 y1 y2 y3 y4 y5 y6 y7 y8) (expr_tokens.l0 (k + 1) y0 y1 y2 y3 y4 y5 y6 y7 y8)) ∧ (∀ y0 y1 y2 y3 y4 y5 y6 y7, LeO (expr_tokens.j0 k y0 y1 y2 y3 y4 y5 y6 y7) (expr_tokens.j0 (k + 1) y0 y1 y2 y3 y4 y5 y6 y7))
  | 0 => ⟨fun _ _ _ _ _ r h => by simp [expr_tokens.f] at h, fun _ _ _ _ _ _ r h => by simp [expr_tokens.j1] at h, fun _ _ _ _ _ _ r h => by simp [expr_tokens.j2] at h, fun _ _ _ _ _ _ _ _ _ r h => by simp [expr_tokens.l0] at h, fun _ _ _ _ _ _ _ _ r h => by simp [expr_tokens.j0] at h⟩
  | k + 1 => by
    obtain ⟨ih0, ih1, ih2, ih3, ih4⟩ := expr_tokens.mono_l k
    refine ⟨?_, ?_, ?_, ?_, ?_⟩
    · intro y0 y1 y2 y3 y4
      unfold expr_tokens.f
      repeat' first
      | (with_reducible exact ih0 _ _ _ _ _)
      | (with_reducible exact ih1 _ _ _ _ _ _)
      | (with_reducible exact ih2 _ _ _ _ _ _)
      | (with_reducible exact ih3 _ _ _ _ _ _ _ _ _)
      | (with_reducible exact ih4 _ _ _ _ _ _ _ _)
      | (with_reducible exact expr_wrapped.mono _ _ _ _ _ _)
      | (with_reducible exact LeO.refl _)
      | (with_reducible exact LeO.none _)
      | (with_reducible refine LeO.ite ?_ ?_)
      | (with_reducible refine LeO.bind ?_ (fun _ => ?_))
      | exact ih0 _ _ _ _ _
      | exact ih1 _ _ _ _ _ _
      | exact ih2 _ _ _ _ _ _
      | exact ih3 _ _ _ _ _ _ _ _ _
      | exact ih4 _ _ _ _ _ _ _ _
      | exact expr_wrapped.mono _ _ _ _ _ _
      | exact LeO.none _
      | refine LeO.ite ?_ ?_
      | refine LeO.bind ?_ (fun _ => ?_)
    · intro y0 y1 y2 y3 y4 y5
      unfold expr_tokens.j1
      repeat' first
      | (with_reducible exact ih0 _ _ _ _ _)
      | (with_reducible exact ih1 _ _ _ _ _ _)
      | (with_reducible exact ih2 _ _ _ _ _ _)
      | (with_reducible exact ih3 _ _ _ _ _ _ _ _ _)
      | (with_reducible exact ih4 _ _ _ _ _ _ _ _)
      | (with_reducible exact expr_wrapped.mono _ _ _ _ _ _)
      | (with_reducible exact LeO.refl _)
      | (with_reducible exact LeO.none _)
      | (with_reducible refine LeO.ite ?_ ?_)
      | (with_reducible refine LeO.bind ?_ (fun _ => ?_))
      | exact ih0 _ _ _ _ _
      | exact ih1 _ _ _ _ _ _
      | exact ih2 _ _ _ _ _ _
      | exact ih3 _ _ _ _ _ _ _ _ _
      | exact ih4 _ _ _ _ _ _ _ _
      | exact expr_wrapped.mono _ _ _ _ _ _
      | exact LeO.none _
      | refine LeO.ite ?_ ?_
      | refine LeO.bind ?_ (fun _ => ?_)
    · intro y0 y1 y2 y3 y4 y5
      unfold expr_tokens.j2
      repeat' first
      | (with_reducible exact ih0 _ _ _ _ _)
      | (with_reducible exact ih1 _ _ _ _ _ _)
      | (with_reducible exact ih2 _ _ _ _ _ _)
      | (with_reducible exact ih3 _ _ _ _ _ _ _ _ _)
      | (with_reducible exact ih4 _ _ _ _ _ _ _ _)
      | (with_reducible exact expr_wrapped.mono _ _ _ _ _ _)
      | (with_reducible exact LeO.refl _)
      | (with_reducible exact LeO.none _)
      | (with_reducible refine LeO.ite ?_ ?_)
      | (with_reducible refine LeO.bind ?_ (fun _ => ?_))
      | exact ih0 _ _ _ _ _
      | exact ih1 _ _ _ _ _ _
      | exact ih2 _ _ _ _ _ _
      | exact ih3 _ _ _ _ _ _ _ _ _
      | exact ih4 _ _ _ _ _ _ _ _
      | exact expr_wrapped.mono _ _ _ _ _ _
      | exact LeO.none _
      | refine LeO.ite ?_ ?_
      | refine LeO.bind ?_ (fun _ => ?_)
    · intro y0 y1 y2 y3 y4 y5 y6 y7 y8
      unfold expr_tokens.l0
      repeat' first
      | (with_reducible exact ih0 _ _ _ _ _)
      | (with_reducible exact ih1 _ _ _ _ _ _)
      | (with_reducible exact ih2 _ _ _ _ _ _)
      | (with_reducible exact ih3 _ _ _ _ _ _ _ _ _)
      | (with_reducible exact ih4 _ _ _ _ _ _ _ _)
      | (with_reducible exact expr_wrapped.mono _ _ _ _ _ _)
      | (with_reducible exact LeO.refl _)
      | (with_reducible exact LeO.none _)
      | (with_reducible refine LeO.ite ?_ ?_)
      | (with_reducible refine LeO.bind ?_ (fun _ => ?_))
      | exact ih0 _ _ _ _ _
      | exact ih1 _ _ _ _ _ _
      | exact ih2 _ _ _ _ _ _
      | exact ih3 _ _ _ _ _ _ _ _ _
      | exact ih4 _ _ _ _ _ _ _ _
      | exact expr_wrapped.mono _ _ _ _ _ _
      | exact LeO.none _
      | refine LeO.ite ?_ ?_
      | refine LeO.bind ?_ (fun _ => ?_)
    · intro y0 y1 y2 y3 y4 y5 y6 y7
      unfold expr_tokens.j0
      repeat' first
      | (with_reducible exact ih0 _ _ _ _ _)
      | (with_reducible exact ih1 _ _ _ _ _ _)
      | (with_reducible exact ih2 _ _ _ _ _ _)
      | (with_reducible exact ih3 _ _ _ _ _ _ _ _ _)
      | (with_reducible exact ih4 _ _ _ _ _ _ _ _)
      | (with_reducible exact expr_wrapped.mono _ _ _ _ _ _)
      | (with_reducible exact LeO.refl _)
      | (with_reducible exact LeO.none _)
      | (with_reducible refine LeO.ite ?_ ?_)
      | (with_reducible refine LeO.bind ?_ (fun _ => ?_))
      | exact ih0 _ _ _ _ _
      | exact ih1 _ _ _ _ _ _
      | exact ih2 _ _ _ _ _ _
      | exact ih3 _ _ _ _ _ _ _ _ _
      | exact ih4 _ _ _ _ _ _ _ _
      | exact expr_wrapped.mono _ _ _ _ _ _
      | exact LeO.none _
      | refine LeO.ite ?_ ?_
      | refine LeO.bind ?_ (fun _ => ?_)
theorem expr_tokens.mono : ∀ a0 a1 a2 a3 a4 k, LeO (expr_tokens.f k a0 a1 a2 a3 a4) (expr_tokens.f (k + 1) a0 a1 a2 a3 a4) := by
  intro a0 a1 a2 a3 a4 k
  obtain ⟨ih0, ih1, ih2, ih3, ih4⟩ := expr_tokens.mono_l k
  exact ih0 a0 a1 a2 a3 a4
set_option maxHeartbeats 8000000 in
set_option maxRecDepth 100000 in
theorem expr_tokens.calls (k : Nat) : ∀ (a0_0 : Int) (a0_1 : Int) (a0_2 : ByteArray) (A0_3 : Option Addr) (c0_3 : Nat) (l0_3 : List (S34)) (a1 : Int) (r : Int) (w : World) (hr0_3 : Kd.C k34 w A0_3 l0_3.length l0_3) (hc0_3 : l0_3.length ≤ c0_3) (h : expr_tokens.f k a0_0 a0_1 a0_2 l0_3 a1 = some r) (hT : UT w),
    Calls Tryd.prog 63 #[.agg #[.int .i64 a0_0, .int .i64 a0_1, .string a0_2, .slice A0_3 l0_3.length c0_3], .int .i64 a1] w fun e w' => e = .returned (.int .i64 r) ∧ Below w.heap.size w w' := by
  induction k using Nat.strongRecOn with
  | _ k ih =>
  intro a0_0 a0_1 a0_2 A0_3 c0_3 l0_3 a1 r w hr0_3 hc0_3 h hT
  have HT0 := Aside0.mk hT
  clear hT
  cases k with
  | zero => exact absurd h (by simp [expr_tokens.f])
  | succ k =>
  simp only [expr_tokens.f] at h
  have hu34 := Tryd.underlying34
  have HR0_3 := Aside0.mk hr0_3
  have HC0_3 := Aside0.mk hc0_3
  clear hr0_3 hc0_3
  have HB := Aside0.mk (Below.refl w.heap.size w)
  have H : (if a0_0 = 0 then (expr_tokens.j0 k a1 2 a0_0 (a0_0 == 0) a0_0 a0_1 a0_2 l0_3) else (expr_tokens.j0 k a1 2 a0_0 (a0_0 == 1) a0_0 a0_1 a0_2 l0_3)) = some r := h
  clear h
  have HC3 := Aside0.mk H
  clear H
  go_enter Tryd.func63, Tryd.ntmps63
  go_upto_block 0 with (first | ((with_reducible refine gate_dst (N := 2) rfl ?_); (try (refine gate_guard (by rfl) ?_; dsimp only)); refine box_event ?hg (N := 2) ?hd (cs := #[.int .i64 a0_0, .int .i64 a0_1, .string a0_2, .slice A0_3 l0_3.length c0_3]) (t := 34) ?hr ?_; (case hd => rfl); (case hg => rfl); (case hr => first | (go_simp; done) | (go_simp; rfl)); intro gb101 hg w4 hbox hb; have n0_ := qs hb; have n1_ := Aside0.mk (hbox); have n2_ := Aside0.mk ((by rw [hg]; exact (below_size qb) : w.heap.size ≤ gb101)); have n3_ := Aside0.mk ((by rw [hg]; exact (below_size qb) : w.heap.size ≤ gb101)); clear HB; have HB := n0_; have BK101 := n1_; have GW101 := n2_; have GE101 := n3_; clear n0_ n1_ n2_ n3_; clear hb hbox hg; obtain ⟨_, _, _, _, _, _, _, _⟩ := q4 BK101.out))
  (try simp only [Act.put, List.setIfInBounds_toArray, List.set_cons_zero, List.set_cons_succ])
  go_cut [5] (fun v5 wc => ∃ (kq : Nat) (x5_2 : Int), v5 = .int .i64 x5_2 ∧ Aside0 (expr_tokens.j1 kq a1 x5_2 a0_0 a0_1 a0_2 l0_3 = some r) ∧ Aside0 (kq ≤ k) ∧ Aside0 (wc.heap[gb101]? = some (.cells #[.int .i64 a0_0, .int .i64 a0_1, .string a0_2, (.slice A0_3 l0_3.length c0_3)] 34 (0, 0))) ∧ Aside0 (Below w.heap.size w wc))
  case first =>
    have H := HC3.out
    clear HC3
    have HC6 := Aside0.mk H
    clear H
    go_upto_if 12 with (fail)
    go_cut [12] (fun v12 wc => ∃ (kq : Nat) (x12_5 : Bool), v12 = .bool x12_5 ∧ Aside0 (expr_tokens.j0 kq a1 2 a0_0 x12_5 a0_0 a0_1 a0_2 l0_3 = some r) ∧ Aside0 (kq ≤ k) ∧ Aside0 (wc.heap[gb101]? = some (.cells #[.int .i64 a0_0, .int .i64 a0_1, .string a0_2, (.slice A0_3 l0_3.length c0_3)] 34 (0, 0))) ∧ Aside0 (Below w.heap.size w wc))
    case first =>
      have H := HC6.out
      clear HC6
      by_cases c7 : a0_0 = 0
      · rw [if_pos c7] at H
        obtain ⟨c7b0, c7b1⟩ := qe c7
        clear c7
        (first | rw [c7b0] | (simp only [i64_w, i32_w]; rw [c7b0]) | skip)
        have H' := Aside0.mk H
        clear H
        go_wp2
        go_meet
        case rel => exact ⟨_, ((a0_0 == 0)), qv, H', ql, qk, qB⟩
      · rw [if_neg c7] at H
        obtain ⟨c7b0, c7b1⟩ := qd c7
        (first | rw [c7b0] | (simp only [i64_w, i32_w]; rw [c7b0]) | skip)
        have H' := Aside0.mk H
        clear H
        go_wp2
        go_meet
        case rel => exact ⟨_, ((a0_0 == 1)), qv, H', ql, qk, qB⟩
    case rest =>
      clear HC6
      obtain ⟨kq, x12_5, rfl, HA, HJ5, BK101, HB⟩ := hcut
      cases kq with
      | zero => exact absurd HA.out (by simp [expr_tokens.j0])
      | succ kj5 =>
        have H := HA.out
        clear HA
        simp only [expr_tokens.j0] at H
        by_cases c8 : x12_5 = true
        · subst c8
          rw [if_pos rfl] at H
          by_cases c9 : (l0_3.length : Int) > 0
          · rw [if_pos c9] at H
            have c9b0 : decide (0 < (l0_3.length : Int)) = true := decide_eq_true c9
            have c9b1 : decide (0 < l0_3.length) = true := decide_eq_true (by omega)
            clear c9
            obtain rfl := Option.some.inj H
            obtain ⟨_, _, _, _, _, _, _, _⟩ := q4 BK101.out
            go_wp2
            go_ret
            exact qr
          · rw [if_neg c9] at H
            have c9b0 : decide (0 < (l0_3.length : Int)) = false := decide_eq_false c9
            have c9b1 : decide (0 < l0_3.length) = false := decide_eq_false (by omega)
            clear c9
            by_cases c11 : a0_0 = 0
            · rw [if_pos c11] at H
              obtain ⟨c11b0, c11b1⟩ := qe c11
              clear c11
              by_cases c12 : a0_1 < 0
              · rw [if_pos c12] at H
                have c12b0 : decide (a0_1 < 0) = true := decide_eq_true c12
                clear c12
                obtain rfl := Option.some.inj H
                obtain ⟨_, _, _, _, _, _, _, _⟩ := q4 BK101.out
                go_wp2
                go_ret
                exact qr
              · rw [if_neg c12] at H
                have c12b0 : decide (a0_1 < 0) = false := decide_eq_false c12
                clear c12
                by_cases c14 : a0_2.toList = ([] : List UInt8)
                · rw [if_pos c14] at H
                  obtain ⟨c14b0, c14b1⟩ := qe c14
                  clear c14
                  by_cases c15 : a0_0 = 1
                  · rw [if_pos c15] at H
                    obtain ⟨c15b0, c15b1⟩ := qe c15
                    clear c15
                    by_cases c16 : a0_1 = 0
                    · rw [if_pos c16] at H
                      obtain ⟨c16b0, c16b1⟩ := qe c16
                      clear c16
                      replace H := qi H
                      obtain ⟨t102, A17, H⟩ := H
                      by_cases c18 : t102 = true
                      · subst c18
                        rw [if_pos rfl] at H
                        obtain rfl := Option.some.inj H
                        obtain ⟨_, _, _, _, _, _, _, _⟩ := q4 BK101.out
                        go_wp2_with (first | (go_at_call 91; (with_reducible refine (lex_Name.calls a0_2 true _ A17.out (by first | exact HT0.out | exact UT.below HT0.out qb)).mono ?_); rintro e w20 ⟨rfl, hb⟩; have n0_ := qn (g := gb101) hb; have n1_ := qs hb; clear BK101; clear HB; have BK101 := n0_; have HB := n1_; clear n0_ n1_; (try clear hb)))
                        go_ret
                        exact qr
                      · replace c18 := Bool.eq_false_iff.mpr c18
                        subst c18
                        rw [if_neg qf] at H
                        obtain rfl := Option.some.inj H
                        obtain ⟨_, _, _, _, _, _, _, _⟩ := q4 BK101.out
                        go_wp2_with (first | (go_at_call 91; (with_reducible refine (lex_Name.calls a0_2 false _ A17.out (by first | exact HT0.out | exact UT.below HT0.out qb)).mono ?_); rintro e w22 ⟨rfl, hb⟩; have n0_ := qn (g := gb101) hb; have n1_ := qs hb; clear BK101; clear HB; have BK101 := n0_; have HB := n1_; clear n0_ n1_; (try clear hb)))
                        go_ret
                        exact qr
                    · rw [if_neg c16] at H
                      obtain ⟨c16b0, c16b1⟩ := qd c16
                      obtain rfl := Option.some.inj H
                      obtain ⟨_, _, _, _, _, _, _, _⟩ := q4 BK101.out
                      go_wp2
                      go_ret
                      exact qr
                  · rw [if_neg c15] at H
                    obtain ⟨c15b0, c15b1⟩ := qd c15
                    obtain rfl := Option.some.inj H
                    obtain ⟨_, _, _, _, _, _, _, _⟩ := q4 BK101.out
                    go_wp2
                    go_ret
                    exact qr
                · rw [if_neg c14] at H
                  obtain ⟨c14b0, c14b1⟩ := qd c14
                  obtain rfl := Option.some.inj H
                  obtain ⟨_, _, _, _, _, _, _, _⟩ := q4 BK101.out
                  go_wp2
                  go_ret
                  exact qr
            · rw [if_neg c11] at H
              obtain ⟨c11b0, c11b1⟩ := qd c11
              by_cases c26 : a0_0 = 1
              · rw [if_pos c26] at H
                obtain ⟨c26b0, c26b1⟩ := qe c26
                clear c26
                by_cases c27 : a0_1 = 0
                · rw [if_pos c27] at H
                  obtain ⟨c27b0, c27b1⟩ := qe c27
                  clear c27
                  replace H := qi H
                  obtain ⟨t103, A28, H⟩ := H
                  by_cases c29 : t103 = true
                  · subst c29
                    rw [if_pos rfl] at H
                    obtain rfl := Option.some.inj H
                    obtain ⟨_, _, _, _, _, _, _, _⟩ := q4 BK101.out
                    go_wp2_with (first | (go_at_call 91; (with_reducible refine (lex_Name.calls a0_2 true _ A28.out (by first | exact HT0.out | exact UT.below HT0.out qb)).mono ?_); rintro e w31 ⟨rfl, hb⟩; have n0_ := qn (g := gb101) hb; have n1_ := qs hb; clear BK101; clear HB; have BK101 := n0_; have HB := n1_; clear n0_ n1_; (try clear hb)))
                    go_ret
                    exact qr
                  · replace c29 := Bool.eq_false_iff.mpr c29
                    subst c29
                    rw [if_neg qf] at H
                    obtain rfl := Option.some.inj H
                    obtain ⟨_, _, _, _, _, _, _, _⟩ := q4 BK101.out
                    go_wp2_with (first | (go_at_call 91; (with_reducible refine (lex_Name.calls a0_2 false _ A28.out (by first | exact HT0.out | exact UT.below HT0.out qb)).mono ?_); rintro e w33 ⟨rfl, hb⟩; have n0_ := qn (g := gb101) hb; have n1_ := qs hb; clear BK101; clear HB; have BK101 := n0_; have HB := n1_; clear n0_ n1_; (try clear hb)))
                    go_ret
                    exact qr
                · rw [if_neg c27] at H
                  obtain ⟨c27b0, c27b1⟩ := qd c27
                  obtain rfl := Option.some.inj H
                  obtain ⟨_, _, _, _, _, _, _, _⟩ := q4 BK101.out
                  go_wp2
                  go_ret
                  exact qr
              · rw [if_neg c26] at H
                obtain ⟨c26b0, c26b1⟩ := qd c26
                obtain rfl := Option.some.inj H
                obtain ⟨_, _, _, _, _, _, _, _⟩ := q4 BK101.out
                go_wp2
                go_ret
                exact qr
        · replace c8 := Bool.eq_false_iff.mpr c8
          subst c8
          rw [if_neg qf] at H
          by_cases c36 : a0_0 = 2
          · rw [if_pos c36] at H
            obtain ⟨c36b0, c36b1⟩ := qe c36
            clear c36
            have H' := Aside0.mk H
            clear H
            go_wp2
            go_meet
            case rel => exact ⟨_, (1), qv, H', ⟨by have := HJ5.out; first | omega | exact Nat.le_refl _⟩, qk, qB⟩
          · rw [if_neg c36] at H
            obtain ⟨c36b0, c36b1⟩ := qd c36
            by_cases c37 : a0_0 = 3
            · rw [if_pos c37] at H
              obtain ⟨c37b0, c37b1⟩ := qe c37
              clear c37
              have H' := Aside0.mk H
              clear H
              go_wp2
              go_meet
              case rel => exact ⟨_, (1), qv, H', ⟨by have := HJ5.out; first | omega | exact Nat.le_refl _⟩, qk, qB⟩
            · rw [if_neg c37] at H
              obtain ⟨c37b0, c37b1⟩ := qd c37
              have H' := Aside0.mk H
              clear H
              go_wp2
              go_meet
              case rel => exact ⟨_, (2), qv, H', ⟨by have := HJ5.out; first | omega | exact Nat.le_refl _⟩, qk, qB⟩
  case rest =>
    clear HC3
    obtain ⟨kq, x5_2, rfl, HA, HJ2, BK101, HB⟩ := hcut
    cases kq with
    | zero => exact absurd HA.out (by simp [expr_tokens.j1])
    | succ kj2 =>
      have H := HA.out
      clear HA
      simp only [expr_tokens.j1] at H
      have HC38 := Aside0.mk H
      clear H
      go_upto_region 11 with (fail)
      go_cut [81] (fun v81 wc => ∃ (kq : Nat) (x81_37 : Bool), v81 = .bool x81_37 ∧ Aside0 (expr_tokens.j2 kq a1 x81_37 a0_0 a0_1 a0_2 l0_3 = some r) ∧ Aside0 (kq ≤ kj2) ∧ Aside0 (wc.heap[gb101]? = some (.cells #[.int .i64 a0_0, .int .i64 a0_1, .string a0_2, (.slice A0_3 l0_3.length c0_3)] 34 (0, 0))) ∧ Aside0 (Below w.heap.size w wc))
      case first =>
        have H := HC38.out
        clear HC38
        by_cases c39 : a0_0 < 0
        · rw [if_pos c39] at H
          have c39b0 : decide (a0_0 < 0) = true := decide_eq_true c39
          clear c39
          (first | rw [c39b0] | (simp only [i64_w, i32_w]; rw [c39b0]) | skip)
          have H' := Aside0.mk H
          clear H
          obtain ⟨_, _, _, _, _, _, _, _⟩ := q4 BK101.out
          go_wp2
          go_meet
          case rel => exact ⟨_, (true), qv, H', ⟨by have := HJ2.out; first | omega | exact Nat.le_refl _⟩, qk, qB⟩
        · rw [if_neg c39] at H
          have c39b0 : decide (a0_0 < 0) = false := decide_eq_false c39
          clear c39
          (first | rw [c39b0] | (simp only [i64_w, i32_w]; rw [c39b0]) | skip)
          by_cases c41 : a0_0 > 16
          · rw [if_pos c41] at H
            have c41b0 : decide (16 < a0_0) = true := decide_eq_true c41
            clear c41
            have H' := Aside0.mk H
            clear H
            obtain ⟨_, _, _, _, _, _, _, _⟩ := q4 BK101.out
            go_wp2
            go_meet
            case rel => exact ⟨_, (true), qv, H', ⟨by have := HJ2.out; first | omega | exact Nat.le_refl _⟩, qk, qB⟩
          · rw [if_neg c41] at H
            have c41b0 : decide (16 < a0_0) = false := decide_eq_false c41
            clear c41
            by_cases c43 : a0_1 = 0
            · rw [if_pos c43] at H
              obtain ⟨c43b0, c43b1⟩ := qe c43
              clear c43
              by_cases c44 : a0_2.toList = ([] : List UInt8)
              · rw [if_pos c44] at H
                obtain ⟨c44b0, c44b1⟩ := qe c44
                clear c44
                by_cases c45 : (l0_3.length : Int) = x5_2
                · rw [if_pos c45] at H
                  obtain ⟨c45b0, c45b1⟩ := qe c45
                  clear c45
                  have H' := Aside0.mk H
                  clear H
                  obtain ⟨_, _, _, _, _, _, _, _⟩ := q4 BK101.out
                  go_wp2
                  go_meet
                  case rel => exact ⟨_, (decide (a1 < 1)), qv, H', ⟨by have := HJ2.out; first | omega | exact Nat.le_refl _⟩, qk, qB⟩
                · rw [if_neg c45] at H
                  obtain ⟨c45b0, c45b1⟩ := qd c45
                  have H' := Aside0.mk H
                  clear H
                  obtain ⟨_, _, _, _, _, _, _, _⟩ := q4 BK101.out
                  go_wp2
                  go_meet
                  case rel => exact ⟨_, (true), qv, H', ⟨by have := HJ2.out; first | omega | exact Nat.le_refl _⟩, qk, qB⟩
              · rw [if_neg c44] at H
                obtain ⟨c44b0, c44b1⟩ := qd c44
                have H' := Aside0.mk H
                clear H
                obtain ⟨_, _, _, _, _, _, _, _⟩ := q4 BK101.out
                go_wp2
                go_meet
                case rel => exact ⟨_, (true), qv, H', ⟨by have := HJ2.out; first | omega | exact Nat.le_refl _⟩, qk, qB⟩
            · rw [if_neg c43] at H
              obtain ⟨c43b0, c43b1⟩ := qd c43
              have H' := Aside0.mk H
              clear H
              obtain ⟨_, _, _, _, _, _, _, _⟩ := q4 BK101.out
              go_wp2
              go_meet
              case rel => exact ⟨_, (true), qv, H', ⟨by have := HJ2.out; first | omega | exact Nat.le_refl _⟩, qk, qB⟩
      case rest =>
        clear HC38
        obtain ⟨kq, x81_37, rfl, HA, HJ37, BK101, HB⟩ := hcut
        cases kq with
        | zero => exact absurd HA.out (by simp [expr_tokens.j2])
        | succ kj37 =>
          have H := HA.out
          clear HA
          simp only [expr_tokens.j2] at H
          by_cases c50 : x81_37 = true
          · subst c50
            rw [if_pos rfl] at H
            obtain rfl := Option.some.inj H
            go_wp2
            go_ret
            exact qr
          · replace c50 := Bool.eq_false_iff.mpr c50
            subst c50
            rw [if_neg qf] at H
            have H' := Aside0.mk H
            clear H
            obtain ⟨_, _, _, _, _, _, _, _⟩ := q4 BK101.out
            go_wp2
            go_loopg [6, 85] kj37 (fun kq v6 v85 w' => ∃ (x6_3 : Int) (x85_3 : Int), v6 = .int .i64 x6_3 ∧ v85 = .int .i64 x85_3 ∧ Aside0 (expr_tokens.l0 kq a1 x6_3 l0_3 (l0_3.length : Int) x85_3 a0_0 a0_1 a0_2 l0_3 = some r) ∧ Aside0 (kq ≤ kj37) ∧ Aside0 (w'.heap[gb101]? = some (.cells #[.int .i64 a0_0, .int .i64 a0_1, .string a0_2, (.slice A0_3 l0_3.length c0_3)] 34 (0, 0))) ∧ Aside0 (Below w.heap.size w w'))
            case atStart => exact ⟨(1), (0), qv, qv, H', ⟨Nat.le_refl _⟩, qk, qB⟩
            case round =>
              clear H'
              obtain ⟨x6_3, x85_3, rfl, rfl, HA, HK3, BK101, HB⟩ := hrel
              cases gk with
              | zero => exact absurd HA.out (by simp [expr_tokens.l0])
              | succ k3 =>
                have H := HA.out
                clear HA
                simp only [expr_tokens.l0] at H
                by_cases c52 : x85_3 < (l0_3.length : Int)
                · rw [if_pos c52] at H
                  have c52b0 : decide (x85_3 < (l0_3.length : Int)) = true := decide_eq_true c52
                  clear c52
                  by_cases c53 : 0 ≤ x85_3
                  · rw [if_pos c53] at H
                    have c53b0 : decide (0 ≤ x85_3) = true := decide_eq_true c53
                    clear c53
                    by_cases c54 : x85_3 < (l0_3.length : Int)
                    · rw [if_pos c54] at H
                      have c54b0 : decide (x85_3 < (l0_3.length : Int)) = true := decide_eq_true c54
                      clear c54
                      replace H := qi H
                      obtain ⟨t106, A55, H⟩ := H
                      by_cases c56 : t106 < 0
                      · rw [if_pos c56] at H
                        have c56b0 : decide (t106 < 0) = true := decide_eq_true c56
                        clear c56
                        obtain rfl := Option.some.inj H
                        have p104 : 0 ≤ (x85_3 : Int) := qa
                        have q104 : x85_3 < (l0_3.length : Int) := qa
                        obtain ⟨ad104, A104_3, c104_3, e104, hx104_0, hx104_1, hx104_2, hx104_3, hl104_3, hi104_3⟩ := at_T34 HR0_3.out x85_3 p104 q104
                        cases e104
                        replace hx104_0 := qc HB.out hx104_0
                        replace hx104_1 := qc HB.out hx104_1
                        replace hx104_2 := qc HB.out hx104_2
                        replace hx104_3 := qc HB.out hx104_3
                        have HR104_3 := Aside0.mk hi104_3
                        have HC104_3 := Aside0.mk hl104_3
                        clear hi104_3 hl104_3
                        replace p104 := eq_true p104
                        replace q104 := eq_true q104
                        go_wp2_with (first | ((with_reducible refine gate_dst (N := 8) rfl ?_); (try (refine gate_guard (by rfl) ?_; dsimp only)); refine box_event ?hg (N := 8) ?hd (cs := #[.int .i64 0, .int .i64 0, .string (⟨#[]⟩ : ByteArray), .slice none 0 0]) (t := 34) ?hr ?_; (case hd => rfl); (case hg => rfl); (case hr => first | (go_simp; done) | (go_simp; rfl)); intro gb105 hg w57 hbox hb; have n0_ := qn (g := gb101) hb; have n1_ := qs hb; have n2_ := Aside0.mk (hbox); have n3_ := Aside0.mk ((by rw [hg]; exact (below_size qb) : w.heap.size ≤ gb105)); have n4_ := Aside0.mk ((by rw [hg]; exact (below_size qb) : w.heap.size ≤ gb105)); have n5_ := Aside0.mk ((by rw [hg]; exact Nat.ne_of_lt (blk_lt (g := gb101) (o := .cells #[.int .i64 a0_0, .int .i64 a0_1, .string a0_2, .slice (some ad104) l0_3.length c0_3] 34 (0, 0)) (by (with_reducible repeat (first | refine blk_drewN ?_ _ | refine blk_drew ?_ | refine blk_alloc ?_ _)); exact BK101.out)) : gb101 ≠ gb105)); have n6_ := Aside0.mk ((by rw [hg]; exact Nat.ne_of_gt (blk_lt (g := gb101) (o := .cells #[.int .i64 a0_0, .int .i64 a0_1, .string a0_2, .slice (some ad104) l0_3.length c0_3] 34 (0, 0)) (by (with_reducible repeat (first | refine blk_drewN ?_ _ | refine blk_drew ?_ | refine blk_alloc ?_ _)); exact BK101.out)) : gb105 ≠ gb101)); clear BK101; clear HB; have BK101 := n0_; have HB := n1_; have BK105 := n2_; have GW105 := n3_; have GE105 := n4_; have NB101_105 := n5_; have NB105_101 := n6_; clear n0_ n1_ n2_ n3_ n4_ n5_ n6_; clear hb hbox hg; have hnb58 := NB105_101.out; have hnc58 := NB101_105.out; obtain ⟨_, _, _, _, _, _, _, _⟩ := q4 BK105.out) | ((with_reducible refine gate_callee (f := 63) rfl ?_); refine goesL_ (some 94) rfl rfl Tryd.func63 (by kernel_rfl) rfl #[.agg #[.int .i64 ((rd_T34 l0_3 x85_3).f0), .int .i64 ((rd_T34 l0_3 x85_3).f1), .string ((rd_T34 l0_3 x85_3).f2), .slice A104_3 ((rd_T34 l0_3 x85_3).f3).length c104_3], .int .i64 (wrap64 (a1 - x6_3))] rfl qm ?_; (with_reducible refine (ih k3 (by have := HJ2.out; have := HJ37.out; have := HK3.out; omega) ((rd_T34 l0_3 x85_3).f0) ((rd_T34 l0_3 x85_3).f1) ((rd_T34 l0_3 x85_3).f2) _ _ ((rd_T34 l0_3 x85_3).f3) (wrap64 (a1 - x6_3)) t106 _ ?side1 ?side2 A55.out (by first | exact HT0.out | exact UT.below HT0.out qb)).mono ?_); (case side1 => exact Kd.C_below HR104_3.out qb); (case side2 => exact HC104_3.out); rintro e w60 ⟨rfl, hb⟩; refine ⟨_, rfl, ?_⟩; have n0_ := Aside0.mk (blk_below (g := gb101) (o := .cells #[.int .i64 a0_0, .int .i64 a0_1, .string a0_2, .slice (some ad104) l0_3.length c0_3] 34 (0, 0)) (by (with_reducible repeat (first | refine blk_drewN ?_ _ | refine blk_drew ?_ | refine blk_alloc ?_ _)); refine blk_far ?_ NB101_105.out _; (with_reducible repeat (first | refine blk_drewN ?_ _ | refine blk_drew ?_ | refine blk_alloc ?_ _)); refine blk_far ?_ NB101_105.out _; (with_reducible repeat (first | refine blk_drewN ?_ _ | refine blk_drew ?_ | refine blk_alloc ?_ _)); refine blk_far ?_ NB101_105.out _; (with_reducible repeat (first | refine blk_drewN ?_ _ | refine blk_drew ?_ | refine blk_alloc ?_ _)); refine blk_far ?_ NB101_105.out _; (with_reducible repeat (first | refine blk_drewN ?_ _ | refine blk_drew ?_ | refine blk_alloc ?_ _)); exact BK101.out) hb); have n1_ := Aside0.mk (blk_below (g := gb105) (o := .cells #[.int .i64 ((rd_T34 l0_3 x85_3).f0), .int .i64 ((rd_T34 l0_3 x85_3).f1), .string ((rd_T34 l0_3 x85_3).f2), .slice A104_3 ((rd_T34 l0_3 x85_3).f3).length c104_3] 34 (0, 0)) qy hb); have n2_ := qs hb; clear BK101; clear BK105; clear HB; have BK101 := n0_; have BK105 := n1_; have HB := n2_; clear n0_ n1_ n2_; (try clear hb)))
                        go_ret
                        exact qr
                      · rw [if_neg c56] at H
                        have c56b0 : decide (t106 < 0) = false := decide_eq_false c56
                        clear c56
                        replace H := qi H
                        obtain ⟨t107, A61, H⟩ := H
                        by_cases c62 : t107 = true
                        · subst c62
                          rw [if_pos rfl] at H
                          by_cases c63 : (wrap64 ((wrap64 (x6_3 + t106)) + 2)) > a1
                          · rw [if_pos c63] at H
                            have c63b0 : decide (a1 < (wrap64 ((wrap64 (x6_3 + t106)) + 2))) = true := decide_eq_true c63
                            clear c63
                            obtain rfl := Option.some.inj H
                            have p104 : 0 ≤ (x85_3 : Int) := qa
                            have q104 : x85_3 < (l0_3.length : Int) := qa
                            obtain ⟨ad104, A104_3, c104_3, e104, hx104_0, hx104_1, hx104_2, hx104_3, hl104_3, hi104_3⟩ := at_T34 HR0_3.out x85_3 p104 q104
                            cases e104
                            replace hx104_0 := qc HB.out hx104_0
                            replace hx104_1 := qc HB.out hx104_1
                            replace hx104_2 := qc HB.out hx104_2
                            replace hx104_3 := qc HB.out hx104_3
                            have HR104_3 := Aside0.mk hi104_3
                            have HC104_3 := Aside0.mk hl104_3
                            clear hi104_3 hl104_3
                            replace p104 := eq_true p104
                            replace q104 := eq_true q104
                            go_wp2_with (first | ((with_reducible refine gate_dst (N := 8) rfl ?_); (try (refine gate_guard (by rfl) ?_; dsimp only)); refine box_event ?hg (N := 8) ?hd (cs := #[.int .i64 0, .int .i64 0, .string (⟨#[]⟩ : ByteArray), .slice none 0 0]) (t := 34) ?hr ?_; (case hd => rfl); (case hg => rfl); (case hr => first | (go_simp; done) | (go_simp; rfl)); intro gb105 hg w64 hbox hb; have n0_ := qn (g := gb101) hb; have n1_ := qs hb; have n2_ := Aside0.mk (hbox); have n3_ := Aside0.mk ((by rw [hg]; exact (below_size qb) : w.heap.size ≤ gb105)); have n4_ := Aside0.mk ((by rw [hg]; exact (below_size qb) : w.heap.size ≤ gb105)); have n5_ := Aside0.mk ((by rw [hg]; exact Nat.ne_of_lt (blk_lt (g := gb101) (o := .cells #[.int .i64 a0_0, .int .i64 a0_1, .string a0_2, .slice (some ad104) l0_3.length c0_3] 34 (0, 0)) (by (with_reducible repeat (first | refine blk_drewN ?_ _ | refine blk_drew ?_ | refine blk_alloc ?_ _)); exact BK101.out)) : gb101 ≠ gb105)); have n6_ := Aside0.mk ((by rw [hg]; exact Nat.ne_of_gt (blk_lt (g := gb101) (o := .cells #[.int .i64 a0_0, .int .i64 a0_1, .string a0_2, .slice (some ad104) l0_3.length c0_3] 34 (0, 0)) (by (with_reducible repeat (first | refine blk_drewN ?_ _ | refine blk_drew ?_ | refine blk_alloc ?_ _)); exact BK101.out)) : gb105 ≠ gb101)); clear BK101; clear HB; have BK101 := n0_; have HB := n1_; have BK105 := n2_; have GW105 := n3_; have GE105 := n4_; have NB101_105 := n5_; have NB105_101 := n6_; clear n0_ n1_ n2_ n3_ n4_ n5_ n6_; clear hb hbox hg; have hnb65 := NB105_101.out; have hnc65 := NB101_105.out; obtain ⟨_, _, _, _, _, _, _, _⟩ := q4 BK105.out) | ((with_reducible refine gate_callee (f := 63) rfl ?_); refine goesL_ (some 94) rfl rfl Tryd.func63 (by kernel_rfl) rfl #[.agg #[.int .i64 ((rd_T34 l0_3 x85_3).f0), .int .i64 ((rd_T34 l0_3 x85_3).f1), .string ((rd_T34 l0_3 x85_3).f2), .slice A104_3 ((rd_T34 l0_3 x85_3).f3).length c104_3], .int .i64 (wrap64 (a1 - x6_3))] rfl qm ?_; (with_reducible refine (ih k3 (by have := HJ2.out; have := HJ37.out; have := HK3.out; omega) ((rd_T34 l0_3 x85_3).f0) ((rd_T34 l0_3 x85_3).f1) ((rd_T34 l0_3 x85_3).f2) _ _ ((rd_T34 l0_3 x85_3).f3) (wrap64 (a1 - x6_3)) t106 _ ?side1 ?side2 A55.out (by first | exact HT0.out | exact UT.below HT0.out qb)).mono ?_); (case side1 => exact Kd.C_below HR104_3.out qb); (case side2 => exact HC104_3.out); rintro e w67 ⟨rfl, hb⟩; refine ⟨_, rfl, ?_⟩; have n0_ := Aside0.mk (blk_below (g := gb101) (o := .cells #[.int .i64 a0_0, .int .i64 a0_1, .string a0_2, .slice (some ad104) l0_3.length c0_3] 34 (0, 0)) (by (with_reducible repeat (first | refine blk_drewN ?_ _ | refine blk_drew ?_ | refine blk_alloc ?_ _)); refine blk_far ?_ NB101_105.out _; (with_reducible repeat (first | refine blk_drewN ?_ _ | refine blk_drew ?_ | refine blk_alloc ?_ _)); refine blk_far ?_ NB101_105.out _; (with_reducible repeat (first | refine blk_drewN ?_ _ | refine blk_drew ?_ | refine blk_alloc ?_ _)); refine blk_far ?_ NB101_105.out _; (with_reducible repeat (first | refine blk_drewN ?_ _ | refine blk_drew ?_ | refine blk_alloc ?_ _)); refine blk_far ?_ NB101_105.out _; (with_reducible repeat (first | refine blk_drewN ?_ _ | refine blk_drew ?_ | refine blk_alloc ?_ _)); exact BK101.out) hb); have n1_ := Aside0.mk (blk_below (g := gb105) (o := .cells #[.int .i64 ((rd_T34 l0_3 x85_3).f0), .int .i64 ((rd_T34 l0_3 x85_3).f1), .string ((rd_T34 l0_3 x85_3).f2), .slice A104_3 ((rd_T34 l0_3 x85_3).f3).length c104_3] 34 (0, 0)) qy hb); have n2_ := qs hb; clear BK101; clear BK105; clear HB; have BK101 := n0_; have BK105 := n1_; have HB := n2_; clear n0_ n1_ n2_; (try clear hb); obtain ⟨_, _, _, _, _, _, _, _⟩ := q4 BK101.out) | ((with_reducible refine gate_callee (f := 96) rfl ?_); refine goesL_ (some 102) rfl rfl Tryd.func96 (by kernel_rfl) rfl #[.agg #[.int .i64 a0_0, .int .i64 a0_1, .string a0_2, .slice (some ad104) l0_3.length c0_3], .int .i64 x85_3] rfl qm ?_; (with_reducible refine (expr_wrapped.calls k3 a0_0 a0_1 a0_2 _ _ l0_3 x85_3 true _ ?side1 ?side2 A61.out).mono ?_); (case side1 => exact qC HR0_3.out); (case side2 => exact HC0_3.out); rintro e w69 ⟨rfl, hb⟩; refine ⟨_, rfl, ?_⟩; have n0_ := qn (g := gb101) hb; have n1_ := qn (g := gb105) hb; have n2_ := qs hb; clear BK101; clear BK105; clear HB; have BK101 := n0_; have BK105 := n1_; have HB := n2_; clear n0_ n1_ n2_; (try clear hb)))
                            go_ret
                            exact qr
                          · rw [if_neg c63] at H
                            have c63b0 : decide (a1 < (wrap64 ((wrap64 (x6_3 + t106)) + 2))) = false := decide_eq_false c63
                            clear c63
                            have H' := Aside0.mk H
                            clear H
                            have p104 : 0 ≤ (x85_3 : Int) := qa
                            have q104 : x85_3 < (l0_3.length : Int) := qa
                            obtain ⟨ad104, A104_3, c104_3, e104, hx104_0, hx104_1, hx104_2, hx104_3, hl104_3, hi104_3⟩ := at_T34 HR0_3.out x85_3 p104 q104
                            cases e104
                            replace hx104_0 := qc HB.out hx104_0
                            replace hx104_1 := qc HB.out hx104_1
                            replace hx104_2 := qc HB.out hx104_2
                            replace hx104_3 := qc HB.out hx104_3
                            have HR104_3 := Aside0.mk hi104_3
                            have HC104_3 := Aside0.mk hl104_3
                            clear hi104_3 hl104_3
                            replace p104 := eq_true p104
                            replace q104 := eq_true q104
                            go_wp2_with (first | ((with_reducible refine gate_dst (N := 8) rfl ?_); (try (refine gate_guard (by rfl) ?_; dsimp only)); refine box_event ?hg (N := 8) ?hd (cs := #[.int .i64 0, .int .i64 0, .string (⟨#[]⟩ : ByteArray), .slice none 0 0]) (t := 34) ?hr ?_; (case hd => rfl); (case hg => rfl); (case hr => first | (go_simp; done) | (go_simp; rfl)); intro gb105 hg w70 hbox hb; have n0_ := qn (g := gb101) hb; have n1_ := qs hb; have n2_ := Aside0.mk (hbox); have n3_ := Aside0.mk ((by rw [hg]; exact (below_size qb) : w.heap.size ≤ gb105)); have n4_ := Aside0.mk ((by rw [hg]; exact (below_size qb) : w.heap.size ≤ gb105)); have n5_ := Aside0.mk ((by rw [hg]; exact Nat.ne_of_lt (blk_lt (g := gb101) (o := .cells #[.int .i64 a0_0, .int .i64 a0_1, .string a0_2, .slice (some ad104) l0_3.length c0_3] 34 (0, 0)) (by (with_reducible repeat (first | refine blk_drewN ?_ _ | refine blk_drew ?_ | refine blk_alloc ?_ _)); exact BK101.out)) : gb101 ≠ gb105)); have n6_ := Aside0.mk ((by rw [hg]; exact Nat.ne_of_gt (blk_lt (g := gb101) (o := .cells #[.int .i64 a0_0, .int .i64 a0_1, .string a0_2, .slice (some ad104) l0_3.length c0_3] 34 (0, 0)) (by (with_reducible repeat (first | refine blk_drewN ?_ _ | refine blk_drew ?_ | refine blk_alloc ?_ _)); exact BK101.out)) : gb105 ≠ gb101)); clear BK101; clear HB; have BK101 := n0_; have HB := n1_; have BK105 := n2_; have GW105 := n3_; have GE105 := n4_; have NB101_105 := n5_; have NB105_101 := n6_; clear n0_ n1_ n2_ n3_ n4_ n5_ n6_; clear hb hbox hg; have hnb71 := NB105_101.out; have hnc71 := NB101_105.out; obtain ⟨_, _, _, _, _, _, _, _⟩ := q4 BK105.out) | ((with_reducible refine gate_callee (f := 63) rfl ?_); refine goesL_ (some 94) rfl rfl Tryd.func63 (by kernel_rfl) rfl #[.agg #[.int .i64 ((rd_T34 l0_3 x85_3).f0), .int .i64 ((rd_T34 l0_3 x85_3).f1), .string ((rd_T34 l0_3 x85_3).f2), .slice A104_3 ((rd_T34 l0_3 x85_3).f3).length c104_3], .int .i64 (wrap64 (a1 - x6_3))] rfl qm ?_; (with_reducible refine (ih k3 (by have := HJ2.out; have := HJ37.out; have := HK3.out; omega) ((rd_T34 l0_3 x85_3).f0) ((rd_T34 l0_3 x85_3).f1) ((rd_T34 l0_3 x85_3).f2) _ _ ((rd_T34 l0_3 x85_3).f3) (wrap64 (a1 - x6_3)) t106 _ ?side1 ?side2 A55.out (by first | exact HT0.out | exact UT.below HT0.out qb)).mono ?_); (case side1 => exact Kd.C_below HR104_3.out qb); (case side2 => exact HC104_3.out); rintro e w73 ⟨rfl, hb⟩; refine ⟨_, rfl, ?_⟩; have n0_ := Aside0.mk (blk_below (g := gb101) (o := .cells #[.int .i64 a0_0, .int .i64 a0_1, .string a0_2, .slice (some ad104) l0_3.length c0_3] 34 (0, 0)) (by (with_reducible repeat (first | refine blk_drewN ?_ _ | refine blk_drew ?_ | refine blk_alloc ?_ _)); refine blk_far ?_ NB101_105.out _; (with_reducible repeat (first | refine blk_drewN ?_ _ | refine blk_drew ?_ | refine blk_alloc ?_ _)); refine blk_far ?_ NB101_105.out _; (with_reducible repeat (first | refine blk_drewN ?_ _ | refine blk_drew ?_ | refine blk_alloc ?_ _)); refine blk_far ?_ NB101_105.out _; (with_reducible repeat (first | refine blk_drewN ?_ _ | refine blk_drew ?_ | refine blk_alloc ?_ _)); refine blk_far ?_ NB101_105.out _; (with_reducible repeat (first | refine blk_drewN ?_ _ | refine blk_drew ?_ | refine blk_alloc ?_ _)); exact BK101.out) hb); have n1_ := Aside0.mk (blk_below (g := gb105) (o := .cells #[.int .i64 ((rd_T34 l0_3 x85_3).f0), .int .i64 ((rd_T34 l0_3 x85_3).f1), .string ((rd_T34 l0_3 x85_3).f2), .slice A104_3 ((rd_T34 l0_3 x85_3).f3).length c104_3] 34 (0, 0)) qy hb); have n2_ := qs hb; clear BK101; clear BK105; clear HB; have BK101 := n0_; have BK105 := n1_; have HB := n2_; clear n0_ n1_ n2_; (try clear hb); obtain ⟨_, _, _, _, _, _, _, _⟩ := q4 BK101.out) | ((with_reducible refine gate_callee (f := 96) rfl ?_); refine goesL_ (some 102) rfl rfl Tryd.func96 (by kernel_rfl) rfl #[.agg #[.int .i64 a0_0, .int .i64 a0_1, .string a0_2, .slice (some ad104) l0_3.length c0_3], .int .i64 x85_3] rfl qm ?_; (with_reducible refine (expr_wrapped.calls k3 a0_0 a0_1 a0_2 _ _ l0_3 x85_3 true _ ?side1 ?side2 A61.out).mono ?_); (case side1 => exact qC HR0_3.out); (case side2 => exact HC0_3.out); rintro e w75 ⟨rfl, hb⟩; refine ⟨_, rfl, ?_⟩; have n0_ := qn (g := gb101) hb; have n1_ := qn (g := gb105) hb; have n2_ := qs hb; clear BK101; clear BK105; clear HB; have BK101 := n0_; have BK105 := n1_; have HB := n2_; clear n0_ n1_ n2_; (try clear hb)))
                            go_roundg k3
                            case measure => have := HJ2.out; have := HJ37.out; have := HK3.out; omega
                            case rel => exact ⟨(wrap64 ((wrap64 (x6_3 + t106)) + 2)), (wrap64 (x85_3 + 1)), qv, qv, H', ⟨by have := HJ2.out; have := HJ37.out; have := HK3.out; omega⟩, qk, qB⟩
                        · replace c62 := Bool.eq_false_iff.mpr c62
                          subst c62
                          rw [if_neg qf] at H
                          by_cases c76 : (wrap64 (x6_3 + t106)) > a1
                          · rw [if_pos c76] at H
                            have c76b0 : decide (a1 < (wrap64 (x6_3 + t106))) = true := decide_eq_true c76
                            clear c76
                            obtain rfl := Option.some.inj H
                            have p104 : 0 ≤ (x85_3 : Int) := qa
                            have q104 : x85_3 < (l0_3.length : Int) := qa
                            obtain ⟨ad104, A104_3, c104_3, e104, hx104_0, hx104_1, hx104_2, hx104_3, hl104_3, hi104_3⟩ := at_T34 HR0_3.out x85_3 p104 q104
                            cases e104
                            replace hx104_0 := qc HB.out hx104_0
                            replace hx104_1 := qc HB.out hx104_1
                            replace hx104_2 := qc HB.out hx104_2
                            replace hx104_3 := qc HB.out hx104_3
                            have HR104_3 := Aside0.mk hi104_3
                            have HC104_3 := Aside0.mk hl104_3
                            clear hi104_3 hl104_3
                            replace p104 := eq_true p104
                            replace q104 := eq_true q104
                            go_wp2_with (first | ((with_reducible refine gate_dst (N := 8) rfl ?_); (try (refine gate_guard (by rfl) ?_; dsimp only)); refine box_event ?hg (N := 8) ?hd (cs := #[.int .i64 0, .int .i64 0, .string (⟨#[]⟩ : ByteArray), .slice none 0 0]) (t := 34) ?hr ?_; (case hd => rfl); (case hg => rfl); (case hr => first | (go_simp; done) | (go_simp; rfl)); intro gb105 hg w77 hbox hb; have n0_ := qn (g := gb101) hb; have n1_ := qs hb; have n2_ := Aside0.mk (hbox); have n3_ := Aside0.mk ((by rw [hg]; exact (below_size qb) : w.heap.size ≤ gb105)); have n4_ := Aside0.mk ((by rw [hg]; exact (below_size qb) : w.heap.size ≤ gb105)); have n5_ := Aside0.mk ((by rw [hg]; exact Nat.ne_of_lt (blk_lt (g := gb101) (o := .cells #[.int .i64 a0_0, .int .i64 a0_1, .string a0_2, .slice (some ad104) l0_3.length c0_3] 34 (0, 0)) (by (with_reducible repeat (first | refine blk_drewN ?_ _ | refine blk_drew ?_ | refine blk_alloc ?_ _)); exact BK101.out)) : gb101 ≠ gb105)); have n6_ := Aside0.mk ((by rw [hg]; exact Nat.ne_of_gt (blk_lt (g := gb101) (o := .cells #[.int .i64 a0_0, .int .i64 a0_1, .string a0_2, .slice (some ad104) l0_3.length c0_3] 34 (0, 0)) (by (with_reducible repeat (first | refine blk_drewN ?_ _ | refine blk_drew ?_ | refine blk_alloc ?_ _)); exact BK101.out)) : gb105 ≠ gb101)); clear BK101; clear HB; have BK101 := n0_; have HB := n1_; have BK105 := n2_; have GW105 := n3_; have GE105 := n4_; have NB101_105 := n5_; have NB105_101 := n6_; clear n0_ n1_ n2_ n3_ n4_ n5_ n6_; clear hb hbox hg; have hnb78 := NB105_101.out; have hnc78 := NB101_105.out; obtain ⟨_, _, _, _, _, _, _, _⟩ := q4 BK105.out) | ((with_reducible refine gate_callee (f := 63) rfl ?_); refine goesL_ (some 94) rfl rfl Tryd.func63 (by kernel_rfl) rfl #[.agg #[.int .i64 ((rd_T34 l0_3 x85_3).f0), .int .i64 ((rd_T34 l0_3 x85_3).f1), .string ((rd_T34 l0_3 x85_3).f2), .slice A104_3 ((rd_T34 l0_3 x85_3).f3).length c104_3], .int .i64 (wrap64 (a1 - x6_3))] rfl qm ?_; (with_reducible refine (ih k3 (by have := HJ2.out; have := HJ37.out; have := HK3.out; omega) ((rd_T34 l0_3 x85_3).f0) ((rd_T34 l0_3 x85_3).f1) ((rd_T34 l0_3 x85_3).f2) _ _ ((rd_T34 l0_3 x85_3).f3) (wrap64 (a1 - x6_3)) t106 _ ?side1 ?side2 A55.out (by first | exact HT0.out | exact UT.below HT0.out qb)).mono ?_); (case side1 => exact Kd.C_below HR104_3.out qb); (case side2 => exact HC104_3.out); rintro e w80 ⟨rfl, hb⟩; refine ⟨_, rfl, ?_⟩; have n0_ := Aside0.mk (blk_below (g := gb101) (o := .cells #[.int .i64 a0_0, .int .i64 a0_1, .string a0_2, .slice (some ad104) l0_3.length c0_3] 34 (0, 0)) (by (with_reducible repeat (first | refine blk_drewN ?_ _ | refine blk_drew ?_ | refine blk_alloc ?_ _)); refine blk_far ?_ NB101_105.out _; (with_reducible repeat (first | refine blk_drewN ?_ _ | refine blk_drew ?_ | refine blk_alloc ?_ _)); refine blk_far ?_ NB101_105.out _; (with_reducible repeat (first | refine blk_drewN ?_ _ | refine blk_drew ?_ | refine blk_alloc ?_ _)); refine blk_far ?_ NB101_105.out _; (with_reducible repeat (first | refine blk_drewN ?_ _ | refine blk_drew ?_ | refine blk_alloc ?_ _)); refine blk_far ?_ NB101_105.out _; (with_reducible repeat (first | refine blk_drewN ?_ _ | refine blk_drew ?_ | refine blk_alloc ?_ _)); exact BK101.out) hb); have n1_ := Aside0.mk (blk_below (g := gb105) (o := .cells #[.int .i64 ((rd_T34 l0_3 x85_3).f0), .int .i64 ((rd_T34 l0_3 x85_3).f1), .string ((rd_T34 l0_3 x85_3).f2), .slice A104_3 ((rd_T34 l0_3 x85_3).f3).length c104_3] 34 (0, 0)) qy hb); have n2_ := qs hb; clear BK101; clear BK105; clear HB; have BK101 := n0_; have BK105 := n1_; have HB := n2_; clear n0_ n1_ n2_; (try clear hb); obtain ⟨_, _, _, _, _, _, _, _⟩ := q4 BK101.out) | ((with_reducible refine gate_callee (f := 96) rfl ?_); refine goesL_ (some 102) rfl rfl Tryd.func96 (by kernel_rfl) rfl #[.agg #[.int .i64 a0_0, .int .i64 a0_1, .string a0_2, .slice (some ad104) l0_3.length c0_3], .int .i64 x85_3] rfl qm ?_; (with_reducible refine (expr_wrapped.calls k3 a0_0 a0_1 a0_2 _ _ l0_3 x85_3 false _ ?side1 ?side2 A61.out).mono ?_); (case side1 => exact qC HR0_3.out); (case side2 => exact HC0_3.out); rintro e w82 ⟨rfl, hb⟩; refine ⟨_, rfl, ?_⟩; have n0_ := qn (g := gb101) hb; have n1_ := qn (g := gb105) hb; have n2_ := qs hb; clear BK101; clear BK105; clear HB; have BK101 := n0_; have BK105 := n1_; have HB := n2_; clear n0_ n1_ n2_; (try clear hb)))
                            go_ret
                            exact qr
                          · rw [if_neg c76] at H
                            have c76b0 : decide (a1 < (wrap64 (x6_3 + t106))) = false := decide_eq_false c76
                            clear c76
                            have H' := Aside0.mk H
                            clear H
                            have p104 : 0 ≤ (x85_3 : Int) := qa
                            have q104 : x85_3 < (l0_3.length : Int) := qa
                            obtain ⟨ad104, A104_3, c104_3, e104, hx104_0, hx104_1, hx104_2, hx104_3, hl104_3, hi104_3⟩ := at_T34 HR0_3.out x85_3 p104 q104
                            cases e104
                            replace hx104_0 := qc HB.out hx104_0
                            replace hx104_1 := qc HB.out hx104_1
                            replace hx104_2 := qc HB.out hx104_2
                            replace hx104_3 := qc HB.out hx104_3
                            have HR104_3 := Aside0.mk hi104_3
                            have HC104_3 := Aside0.mk hl104_3
                            clear hi104_3 hl104_3
                            replace p104 := eq_true p104
                            replace q104 := eq_true q104
                            go_wp2_with (first | ((with_reducible refine gate_dst (N := 8) rfl ?_); (try (refine gate_guard (by rfl) ?_; dsimp only)); refine box_event ?hg (N := 8) ?hd (cs := #[.int .i64 0, .int .i64 0, .string (⟨#[]⟩ : ByteArray), .slice none 0 0]) (t := 34) ?hr ?_; (case hd => rfl); (case hg => rfl); (case hr => first | (go_simp; done) | (go_simp; rfl)); intro gb105 hg w83 hbox hb; have n0_ := qn (g := gb101) hb; have n1_ := qs hb; have n2_ := Aside0.mk (hbox); have n3_ := Aside0.mk ((by rw [hg]; exact (below_size qb) : w.heap.size ≤ gb105)); have n4_ := Aside0.mk ((by rw [hg]; exact (below_size qb) : w.heap.size ≤ gb105)); have n5_ := Aside0.mk ((by rw [hg]; exact Nat.ne_of_lt (blk_lt (g := gb101) (o := .cells #[.int .i64 a0_0, .int .i64 a0_1, .string a0_2, .slice (some ad104) l0_3.length c0_3] 34 (0, 0)) (by (with_reducible repeat (first | refine blk_drewN ?_ _ | refine blk_drew ?_ | refine blk_alloc ?_ _)); exact BK101.out)) : gb101 ≠ gb105)); have n6_ := Aside0.mk ((by rw [hg]; exact Nat.ne_of_gt (blk_lt (g := gb101) (o := .cells #[.int .i64 a0_0, .int .i64 a0_1, .string a0_2, .slice (some ad104) l0_3.length c0_3] 34 (0, 0)) (by (with_reducible repeat (first | refine blk_drewN ?_ _ | refine blk_drew ?_ | refine blk_alloc ?_ _)); exact BK101.out)) : gb105 ≠ gb101)); clear BK101; clear HB; have BK101 := n0_; have HB := n1_; have BK105 := n2_; have GW105 := n3_; have GE105 := n4_; have NB101_105 := n5_; have NB105_101 := n6_; clear n0_ n1_ n2_ n3_ n4_ n5_ n6_; clear hb hbox hg; have hnb84 := NB105_101.out; have hnc84 := NB101_105.out; obtain ⟨_, _, _, _, _, _, _, _⟩ := q4 BK105.out) | ((with_reducible refine gate_callee (f := 63) rfl ?_); refine goesL_ (some 94) rfl rfl Tryd.func63 (by kernel_rfl) rfl #[.agg #[.int .i64 ((rd_T34 l0_3 x85_3).f0), .int .i64 ((rd_T34 l0_3 x85_3).f1), .string ((rd_T34 l0_3 x85_3).f2), .slice A104_3 ((rd_T34 l0_3 x85_3).f3).length c104_3], .int .i64 (wrap64 (a1 - x6_3))] rfl qm ?_; (with_reducible refine (ih k3 (by have := HJ2.out; have := HJ37.out; have := HK3.out; omega) ((rd_T34 l0_3 x85_3).f0) ((rd_T34 l0_3 x85_3).f1) ((rd_T34 l0_3 x85_3).f2) _ _ ((rd_T34 l0_3 x85_3).f3) (wrap64 (a1 - x6_3)) t106 _ ?side1 ?side2 A55.out (by first | exact HT0.out | exact UT.below HT0.out qb)).mono ?_); (case side1 => exact Kd.C_below HR104_3.out qb); (case side2 => exact HC104_3.out); rintro e w86 ⟨rfl, hb⟩; refine ⟨_, rfl, ?_⟩; have n0_ := Aside0.mk (blk_below (g := gb101) (o := .cells #[.int .i64 a0_0, .int .i64 a0_1, .string a0_2, .slice (some ad104) l0_3.length c0_3] 34 (0, 0)) (by (with_reducible repeat (first | refine blk_drewN ?_ _ | refine blk_drew ?_ | refine blk_alloc ?_ _)); refine blk_far ?_ NB101_105.out _; (with_reducible repeat (first | refine blk_drewN ?_ _ | refine blk_drew ?_ | refine blk_alloc ?_ _)); refine blk_far ?_ NB101_105.out _; (with_reducible repeat (first | refine blk_drewN ?_ _ | refine blk_drew ?_ | refine blk_alloc ?_ _)); refine blk_far ?_ NB101_105.out _; (with_reducible repeat (first | refine blk_drewN ?_ _ | refine blk_drew ?_ | refine blk_alloc ?_ _)); refine blk_far ?_ NB101_105.out _; (with_reducible repeat (first | refine blk_drewN ?_ _ | refine blk_drew ?_ | refine blk_alloc ?_ _)); exact BK101.out) hb); have n1_ := Aside0.mk (blk_below (g := gb105) (o := .cells #[.int .i64 ((rd_T34 l0_3 x85_3).f0), .int .i64 ((rd_T34 l0_3 x85_3).f1), .string ((rd_T34 l0_3 x85_3).f2), .slice A104_3 ((rd_T34 l0_3 x85_3).f3).length c104_3] 34 (0, 0)) qy hb); have n2_ := qs hb; clear BK101; clear BK105; clear HB; have BK101 := n0_; have BK105 := n1_; have HB := n2_; clear n0_ n1_ n2_; (try clear hb); obtain ⟨_, _, _, _, _, _, _, _⟩ := q4 BK101.out) | ((with_reducible refine gate_callee (f := 96) rfl ?_); refine goesL_ (some 102) rfl rfl Tryd.func96 (by kernel_rfl) rfl #[.agg #[.int .i64 a0_0, .int .i64 a0_1, .string a0_2, .slice (some ad104) l0_3.length c0_3], .int .i64 x85_3] rfl qm ?_; (with_reducible refine (expr_wrapped.calls k3 a0_0 a0_1 a0_2 _ _ l0_3 x85_3 false _ ?side1 ?side2 A61.out).mono ?_); (case side1 => exact qC HR0_3.out); (case side2 => exact HC0_3.out); rintro e w88 ⟨rfl, hb⟩; refine ⟨_, rfl, ?_⟩; have n0_ := qn (g := gb101) hb; have n1_ := qn (g := gb105) hb; have n2_ := qs hb; clear BK101; clear BK105; clear HB; have BK101 := n0_; have BK105 := n1_; have HB := n2_; clear n0_ n1_ n2_; (try clear hb)))
                            go_roundg k3
                            case measure => have := HJ2.out; have := HJ37.out; have := HK3.out; omega
                            case rel => exact ⟨(wrap64 (x6_3 + t106)), (wrap64 (x85_3 + 1)), qv, qv, H', ⟨by have := HJ2.out; have := HJ37.out; have := HK3.out; omega⟩, qk, qB⟩
                    · rw [if_neg c54] at H
                      exact absurd H (by simp)
                  · rw [if_neg c53] at H
                    exact absurd H (by simp)
                · rw [if_neg c52] at H
                  have c52b0 : decide (x85_3 < (l0_3.length : Int)) = false := decide_eq_false c52
                  clear c52
                  obtain rfl := Option.some.inj H
                  go_wp2
                  go_ret
                  exact qr
def expr_May.f (k : Nat) (a0_0 : Int) (a0_1 : Int) (a0_2 : ByteArray) (l0_3 : List (S34)) : Option (Bool) := (expr_tokens.f k a0_0 a0_1 a0_2 l0_3 64).bind fun t102 => (if t102 > 0 then (some (decide (t102 ≤ 64))) else (some false))
theorem expr_May.mono : ∀ a0 a1 a2 a3 k, LeO (expr_May.f k a0 a1 a2 a3) (expr_May.f (k + 1) a0 a1 a2 a3) := by
  intro a0 a1 a2 a3 k
  unfold expr_May.f
  repeat' first
      | (with_reducible exact expr_tokens.mono _ _ _ _ _ _)
      | (with_reducible exact LeO.refl _)
      | (with_reducible exact LeO.none _)
      | (with_reducible refine LeO.ite ?_ ?_)
      | (with_reducible refine LeO.bind ?_ (fun _ => ?_))
      | exact expr_tokens.mono _ _ _ _ _ _
      | exact LeO.none _
      | refine LeO.ite ?_ ?_
      | refine LeO.bind ?_ (fun _ => ?_)
set_option maxHeartbeats 8000000 in
set_option maxRecDepth 100000 in
theorem expr_May.calls (k : Nat) (a0_0 : Int) (a0_1 : Int) (a0_2 : ByteArray) (A0_3 : Option Addr) (c0_3 : Nat) (l0_3 : List (S34)) (r : Bool) (w : World) (hr0_3 : Kd.C k34 w A0_3 l0_3.length l0_3) (hc0_3 : l0_3.length ≤ c0_3) (h : expr_May.f k a0_0 a0_1 a0_2 l0_3 = some r) (hT : UT w) :
  Calls Tryd.prog 29 #[.agg #[.int .i64 a0_0, .int .i64 a0_1, .string a0_2, .slice A0_3 l0_3.length c0_3]] w fun e w' => e = .returned (.bool r) ∧ Below w.heap.size w w' := by
 have HT0 := Aside0.mk hT
 clear hT
 have hu34 := Tryd.underlying34
 have HR0_3 := Aside0.mk hr0_3
 have HC0_3 := Aside0.mk hc0_3
 clear hr0_3 hc0_3
 have HB := Aside0.mk (Below.refl w.heap.size w)
 have H : ((expr_tokens.f k a0_0 a0_1 a0_2 l0_3 64).bind fun t102 => (if t102 > 0 then (some (decide (t102 ≤ 64))) else (some false))) = some r := h
 clear h
 replace H := qi H
 obtain ⟨t102, A2, H⟩ := H
 by_cases c3 : t102 > 0
 ·rw [if_pos c3] at H
  have c3b0 : decide (0 < t102) = true := decide_eq_true c3
  clear c3
  obtain rfl := Option.some.inj H
  go_enter Tryd.func29, Tryd.ntmps29
  go_wp2_with (first | ((with_reducible refine gate_dst (N := 1) rfl ?_); refine box_event ?hg (N := 1) ?hd (cs := #[.int .i64 a0_0, .int .i64 a0_1, .string a0_2, .slice A0_3 l0_3.length c0_3]) (t := 34) ?hr ?_; (case hd => rfl); (case hg => rfl); (case hr => first | (go_simp; done) | (go_simp; rfl)); intro gb101 hg w4 hbox hb; have n0_ := qs hb; have n1_ := Aside0.mk (hbox); have n2_ := Aside0.mk ((by rw [hg]; exact (below_size qb) : w.heap.size ≤ gb101)); have n3_ := Aside0.mk ((by rw [hg]; exact (below_size qb) : w.heap.size ≤ gb101)); clear HB; have HB := n0_; have BK101 := n1_; have GW101 := n2_; have GE101 := n3_; clear n0_ n1_ n2_ n3_; clear hb hbox hg; obtain ⟨_, _, _, _, _, _, _, _⟩ := q4 BK101.out) | ((with_reducible refine gate_callee (f := 63) rfl ?_); refine goesL_ (some 5) rfl rfl Tryd.func63 (by kernel_rfl) rfl #[.agg #[.int .i64 a0_0, .int .i64 a0_1, .string a0_2, .slice A0_3 l0_3.length c0_3], .int .i64 64] rfl qm ?_; (with_reducible refine (expr_tokens.calls k a0_0 a0_1 a0_2 _ _ l0_3 64 t102 _ ?side1 ?side2 A2.out (by first | exact HT0.out | exact UT.below HT0.out qb)).mono ?_); (case side1 => exact qC HR0_3.out); (case side2 => exact HC0_3.out); rintro e w6 ⟨rfl, hb⟩; refine ⟨_, rfl, ?_⟩; have n0_ := qn (g := gb101) hb; have n1_ := qs hb; clear BK101; clear HB; have BK101 := n0_; have HB := n1_; clear n0_ n1_; (try clear hb)))
  go_ret
  exact qr
 ·rw [if_neg c3] at H
  have c3b0 : decide (0 < t102) = false := decide_eq_false c3
  clear c3
  obtain rfl := Option.some.inj H
  go_enter Tryd.func29, Tryd.ntmps29
  go_wp2_with (first | ((with_reducible refine gate_dst (N := 1) rfl ?_); refine box_event ?hg (N := 1) ?hd (cs := #[.int .i64 a0_0, .int .i64 a0_1, .string a0_2, .slice A0_3 l0_3.length c0_3]) (t := 34) ?hr ?_; (case hd => rfl); (case hg => rfl); (case hr => first | (go_simp; done) | (go_simp; rfl)); intro gb101 hg w7 hbox hb; have n0_ := qs hb; have n1_ := Aside0.mk (hbox); have n2_ := Aside0.mk ((by rw [hg]; exact (below_size qb) : w.heap.size ≤ gb101)); have n3_ := Aside0.mk ((by rw [hg]; exact (below_size qb) : w.heap.size ≤ gb101)); clear HB; have HB := n0_; have BK101 := n1_; have GW101 := n2_; have GE101 := n3_; clear n0_ n1_ n2_ n3_; clear hb hbox hg; obtain ⟨_, _, _, _, _, _, _, _⟩ := q4 BK101.out) | ((with_reducible refine gate_callee (f := 63) rfl ?_); refine goesL_ (some 5) rfl rfl Tryd.func63 (by kernel_rfl) rfl #[.agg #[.int .i64 a0_0, .int .i64 a0_1, .string a0_2, .slice A0_3 l0_3.length c0_3], .int .i64 64] rfl qm ?_; (with_reducible refine (expr_tokens.calls k a0_0 a0_1 a0_2 _ _ l0_3 64 t102 _ ?side1 ?side2 A2.out (by first | exact HT0.out | exact UT.below HT0.out qb)).mono ?_); (case side1 => exact qC HR0_3.out); (case side2 => exact HC0_3.out); rintro e w9 ⟨rfl, hb⟩; refine ⟨_, rfl, ?_⟩; have n0_ := qn (g := gb101) hb; have n1_ := qs hb; clear BK101; clear HB; have BK101 := n0_; have HB := n1_; clear n0_ n1_; (try clear hb)))
  go_ret
  exact qr
def cellB (nm : ByteArray) (c : S69) : Bool := c.f0.toList == nm.toList
def idxC (nm : ByteArray) (l : List S69) : Int := match l.findIdx? (cellB nm) with
  | some i => (i : Int)
  | none => -1
theorem rd_getC (l : List S69) (j : Nat) (hj : j < l.length) : rd_T69 l (j : Int) = l[j] := by simp [rd_T69, hj]
theorem idxC_at {nm : ByteArray} {l : List S69} {i : Int} (h0 : 0 ≤ i) (hi : i < (l.length : Int)) (hp : cellB nm (rd_T69 l i) = true) (hn : ∀ j : Int, 0 ≤ j → j < i → cellB nm (rd_T69 l j) = false) : idxC nm l = i := by
  obtain ⟨n, rfl⟩ := Int.eq_ofNat_of_zero_le h0
  have hi' : n < l.length := by omega
  unfold idxC
  have : l.findIdx? (cellB nm) = some n := by
    rw [List.findIdx?_eq_some_iff_getElem]
    refine ⟨hi', by rw [← rd_getC l n hi']; exact hp, fun j hj => ?_⟩
    rw [← rd_getC l j (by omega), hn j (by omega) (by omega)]; decide
  rw [this]
theorem idxC_none {nm : ByteArray} {l : List S69} (hn : ∀ j : Int, 0 ≤ j → j < (l.length : Int) → cellB nm (rd_T69 l j) = false) : idxC nm l = -1 := by
  unfold idxC
  have : l.findIdx? (cellB nm) = none := by
    rw [List.findIdx?_eq_none_iff]
    intro x hx
    obtain ⟨j, hj, rfl⟩ := List.mem_iff_getElem.mp hx
    rw [← rd_getC l j hj]
    exact hn j (by omega) (by omega)
  rw [this]
theorem idxC_lt (nm : ByteArray) (l : List S69) : idxC nm l = -1 ∨ (0 ≤ idxC nm l ∧ idxC nm l < (l.length : Int)) := by
  unfold idxC
  cases h : l.findIdx? (cellB nm) with
  | none => exact .inl rfl
  | some i =>
    rw [List.findIdx?_eq_some_iff_getElem] at h
    obtain ⟨hi, _⟩ := h
    exact .inr ⟨by simp, by simp; omega⟩
theorem ret_intC {k : IntKind} {a b : Int} (h : a = b) : Ending.returned (.int k a) = .returned (.int k b) := by rw [h]
def expr_cell.f (l0 : List (S69)) (a1 : ByteArray) : Option (Int × Bool) := some (if idxC a1 l0 < 0 then (0, false) else ((rd_T69 l0 (idxC a1 l0)).f1, true))
set_option maxHeartbeats 4000000 in
set_option maxRecDepth 100000 in
theorem cell_lit (s nm : ByteArray) (n : Int) (g : Nat) (w : World) (hb : w.heap[g]? = some (.cells #[.string nm] 9 (0, 0))) :
    Calls Tryd.prog 131 #[.agg #[.string s, .int .i64 n], .pointer (some ⟨g, 0, none⟩)] w fun e w' => e = .returned (.bool (s.toList == nm.toList)) ∧ Below w.heap.size w w' := by
  have hu69 := Tryd.underlying69
  have HB := Aside0.mk hb
  clear hb
  go_enter Tryd.func131, Tryd.ntmps131
  go_wp2_with (first | ((with_reducible refine gate_dst (N := 2) rfl ?_); refine box_event ?hg (N := 2) ?hd (cs := #[.string s, .int .i64 n]) (t := 69) ?hr ?_; (case hd => rfl); (case hg => rfl); (case hr => first | (go_simp; done) | (go_simp; rfl)); intro gb hg w4 hbox hb; have HB4 := Aside0.mk hb; have hb2 := blk_below HB.out hb; clear hb hg; have hcz0 : w4.cell? ⟨gb, 0, none⟩ = some (.string s) := (blk_cell hbox 0).trans rfl; have hcy0 : w4.cell? ⟨g, 0, none⟩ = some (.string nm) := (blk_cell hb2 0).trans rfl; clear hbox hb2))
  go_ret
  exact ⟨rfl, by first | exact HB4.out | exact pw_below_drewN HB4.out _⟩
set_option maxHeartbeats 4000000 in
set_option maxRecDepth 100000 in
theorem IndexFunc_cell (A0 : Option Addr) (c0 : Nat) (l0 : List S69) (nm : ByteArray) (g : Nat) (w : World) (hr0 : Kd.C k69 w A0 l0.length l0) (hc0 : l0.length ≤ c0) (hb : w.heap[g]? = some (.cells #[.string nm] 9 (0, 0))) :
    Calls Tryd.prog 130 #[.slice A0 l0.length c0, .func (.func 131) #[] #[.pointer (some ⟨g, 0, none⟩)]] w fun e w' => e = .returned (.int .i64 (idxC nm l0)) ∧ Below w.heap.size w w' := by
  have hu69 := Tryd.underlying69
  have HR0 := Aside0.mk hr0
  have HC0 := Aside0.mk hc0
  have HBK := Aside0.mk hb
  have HM := Aside0.mk hr0.2.1
  clear hr0 hc0 hb
  go_enter Tryd.func130, Tryd.ntmps130
  go_wp2
  go_loopg [8] (l0.length) (fun kq v8 w' => ∃ x8 : Int, v8 = .int .i64 x8 ∧ Aside0 (0 ≤ x8 ∧ x8 ≤ (l0.length : Int) ∧ (kq : Int) = l0.length - x8 ∧ ∀ j : Int, 0 ≤ j → j < x8 → cellB nm (rd_T69 l0 j) = false) ∧ Aside0 (Below w.heap.size w w'))
  case atStart => exact ⟨0, rfl, ⟨by omega, by omega, by omega, fun j h1 h2 => by omega⟩, ⟨by first | exact Below.refl _ _ | exact pw_below_drewN (Below.refl _ _) _⟩⟩
  case round =>
    obtain ⟨x8, rfl, HI, HB⟩ := hrel
    by_cases hlt : x8 < (l0.length : Int)
    · have c3b0 : decide (x8 < (l0.length : Int)) = true := decide_eq_true hlt
      have p155 := HI.out.1
      have q155 := hlt
      obtain ⟨ad, e1, y0, y1⟩ := at_T69 (Kd.C_below HR0.out HB.out) x8 p155 q155
      cases e1
      have c4b0 : decide (0 ≤ x8) = true := decide_eq_true p155
      replace p155 := eq_true p155
      replace q155 := eq_true q155
      have HLT := Aside0.mk hlt
      have HY := Aside0.mk (fun (h : cellB nm (rd_T69 l0 x8) = true) => idxC_at HI.out.1 hlt h HI.out.2.2.2)
      have HI' : Aside0 (cellB nm (rd_T69 l0 x8) = false → ∀ j : Int, 0 ≤ j → j < x8 + 1 → cellB nm (rd_T69 l0 j) = false) := ⟨fun hf j h1 h2 => by
        rcases Int.lt_or_eq_of_le (show j ≤ x8 by omega) with h | rfl
        · exact HI.out.2.2.2 j h1 h
        · exact hf⟩
      have HI2 : Aside0 (0 ≤ x8 ∧ x8 < (l0.length : Int) ∧ (gk : Int) = l0.length - x8) := ⟨HI.out.1, hlt, HI.out.2.2.1⟩
      clear hlt HI
      generalize rd_T69 l0 x8 = y at *
      have HX := Aside0.mk (cell_lit y.f0 nm y.f1 g wr (blk_below HBK.out HB.out))
      cases hb : (y.f0.toList == nm.toList) with
      | true =>
        rw [hb] at HX
        have HBB := Aside0.mk hb
        clear hb
        go_wp2_with (first | (go_at_call 131; refine HX.out.mono ?_; rintro e w' ⟨rfl, hb⟩; have HB2 := Aside0.mk (below_step HB.out hb); clear hb))
        go_ret
        exact ⟨ret_intC (HY.out HBB.out).symm, HB2.out⟩
      | false =>
        rw [hb] at HX
        have HBB := Aside0.mk hb
        clear hb
        go_wp2_with (first | (go_at_call 131; refine HX.out.mono ?_; rintro e w' ⟨rfl, hb⟩; have HB2 := Aside0.mk (below_step HB.out hb); clear hb))
        go_roundg (l0.length - (x8 + 1)).toNat
        case measure => have := HI2.out; omega
        case rel => exact ⟨x8 + 1, by rw [show wrap64 (x8 + 1) = x8 + 1 from by have := HI2.out; have := HM.out; unfold wrap64; omega], ⟨by have := HI2.out; omega, by have := HI2.out; omega, by have := HI2.out; omega, HI'.out HBB.out⟩, HB2⟩
    · have c3b0 : decide (x8 < (l0.length : Int)) = false := decide_eq_false hlt
      have HLT := Aside0.mk hlt
      clear hlt
      go_wp2
      go_ret
      exact ⟨ret_intC (idxC_none (fun j h1 h2 => HI.out.2.2.2 j h1 (by have := HLT.out; omega))).symm, HB.out⟩
set_option maxHeartbeats 4000000 in
set_option maxRecDepth 100000 in
theorem expr_cell.calls (A0 : Option Addr) (c0 : Nat) (l0 : List (S69)) (a1 : ByteArray) (r1 : Int) (r2 : Bool) (w : World) (hr0 : Kd.C k69 w A0 l0.length l0) (hc0 : l0.length ≤ c0) (h : expr_cell.f l0 a1 = some (r1, r2)) :
  Calls Tryd.prog 97 #[.slice A0 l0.length c0, .string a1] w fun e w' => e = .returned (.tuple #[.int .i64 r1, .bool r2]) ∧ Below w.heap.size w w' := by
 have HR0 := Aside0.mk hr0
 have HC0 := Aside0.mk hc0
 clear hr0 hc0
 unfold expr_cell.f at h
 have hlt := idxC_lt a1 l0
 obtain ⟨q, hq⟩ : ∃ q, idxC a1 l0 = q := ⟨_, rfl⟩
 have HQ := Aside0.mk hq
 rw [hq] at h hlt
 clear hq
 rcases hlt with rfl | ⟨h0, h1⟩
 ·simp at h
  obtain ⟨rfl, rfl⟩ := h
  go_enter Tryd.func97, Tryd.ntmps97
  go_wp2_with (first | ((with_reducible refine gate_dst (N := 3) rfl ?_); refine box_event ?hg (N := 3) ?hd (cs := #[.string a1]) (t := 9) ?hr ?_; (case hd => rfl); (case hg => rfl); (case hr => first | (go_simp; done) | (go_simp; rfl)); intro gb hg w4 hbox hb; have HB4 := Aside0.mk hb; have HX := Aside0.mk (IndexFunc_cell A0 c0 l0 a1 gb w4 (Kd.C_below HR0.out hb) HC0.out hbox); rw [HQ.out] at HX; clear hb hg hbox) | (go_at_call 130; refine HX.out.mono ?_; rintro e w5 ⟨rfl, hb⟩; have HB5 := Aside0.mk (below_step HB4.out hb); clear hb))
  go_ret2
  exact ⟨rfl, HB5.out⟩
 ·rw [if_neg (by omega)] at h
  have p1 := h0
  have q1 := h1
  obtain ⟨ad, e1, y0, y1⟩ := at_T69 HR0.out q p1 q1
  cases e1
  simp at h
  obtain ⟨rfl, rfl⟩ := h
  have HY0 := Aside0.mk y0
  have HY1 := Aside0.mk y1
  have d0 : decide (q < 0) = false := decide_eq_false (by omega)
  have d1 : decide (0 ≤ q) = true := decide_eq_true h0
  have d2 : decide (q < (l0.length : Int)) = true := decide_eq_true h1
  replace p1 := eq_true p1
  replace q1 := eq_true q1
  generalize rd_T69 l0 q = y at *
  clear h0 h1 y0 y1
  go_enter Tryd.func97, Tryd.ntmps97
  go_wp2_with (first | ((with_reducible refine gate_dst (N := 3) rfl ?_); refine box_event ?hg (N := 3) ?hd (cs := #[.string a1]) (t := 9) ?hr ?_; (case hd => rfl); (case hg => rfl); (case hr => first | (go_simp; done) | (go_simp; rfl)); intro gb hg w4 hbox hb; have HB4 := Aside0.mk hb; have HX := Aside0.mk (IndexFunc_cell (some ad) c0 l0 a1 gb w4 (Kd.C_below HR0.out hb) HC0.out hbox); rw [HQ.out] at HX; clear hb hg hbox) | (go_at_call 130; refine HX.out.mono ?_; rintro e w5 ⟨rfl, hb⟩; have HB5 := Aside0.mk (below_step HB4.out hb); have y0 := pw_cell_below HB5.out HY0.out; have y1 := pw_cell_below HB5.out HY1.out; clear hb))
  go_ret2
  exact ⟨rfl, HB5.out⟩
def expr_minus.f (a0 : Int) (a1 : Int) : Option (Int × Int) := if ((decide ((wrap64 (a0 - a1)) > a0)) != (decide (a1 < 0))) = true then (some (0, 22)) else (some (wrap64 (a0 - a1), 0))
set_option maxHeartbeats 8000000 in
set_option maxRecDepth 100000 in
theorem expr_minus.calls (a0 : Int) (a1 : Int) (r1 : Int) (r2 : Int) (w : World) (h : expr_minus.f a0 a1 = some (r1, r2)) :
  Calls Tryd.prog 98 #[.int .i64 a0, .int .i64 a1] w fun e w' => e = .returned (.tuple #[.int .i64 r1, .int .i64 r2]) ∧ Drawn0 w w' := by
 have H : (if ((decide ((wrap64 (a0 - a1)) > a0)) != (decide (a1 < 0))) = true then (some (0, 22)) else (some (wrap64 (a0 - a1), 0))) = some (r1, r2) := h
 clear h
 by_cases c3 : ((decide ((wrap64 (a0 - a1)) > a0)) != (decide (a1 < 0))) = true
 ·rw [if_pos c3] at H
  have c3b0 : ((decide ((wrap64 (a0 - a1)) > a0)) != (decide (a1 < 0))) = true := c3
  (try (have c3b1 : decide ((decide ((wrap64 (a0 - a1)) > a0)) = (decide (a1 < 0))) = false := by simpa using c3))
  (try (have c3b2 : ((decide ((wrap64 (a0 - a1)) > a0)) == (decide (a1 < 0))) = false := by simpa using c3))
  (try (have c3b3 : ¬ ((decide ((wrap64 (a0 - a1)) > a0)) = (decide (a1 < 0))) := by simpa using c3))
  clear c3
  simp only [Option.some.injEq, Prod.mk.injEq] at H
  obtain ⟨rfl, rfl⟩ := H
  go_enter Tryd.func98, Tryd.ntmps98
  go_wp2
  go_ret2
  exact ⟨by first | rfl | (simp; done) | (simp [*]; done), by repeat (first | exact Drawn0.refl _ | apply Drawn0.step)⟩
 ·rw [if_neg c3] at H
  have c3b0 : ((decide ((wrap64 (a0 - a1)) > a0)) != (decide (a1 < 0))) = false := by simpa using c3
  (try (have c3b1 : decide ((decide ((wrap64 (a0 - a1)) > a0)) = (decide (a1 < 0))) = true := by simpa using c3))
  (try (have c3b2 : ((decide ((wrap64 (a0 - a1)) > a0)) == (decide (a1 < 0))) = true := by simpa using c3))
  clear c3
  simp only [Option.some.injEq, Prod.mk.injEq] at H
  obtain ⟨rfl, rfl⟩ := H
  go_enter Tryd.func98, Tryd.ntmps98
  go_wp2
  go_ret2
  exact ⟨by first | rfl | (simp; done) | (simp [*]; done), by repeat (first | exact Drawn0.refl _ | apply Drawn0.step)⟩
def expr_truth.f (a0 : Bool) : Option (Int) := if a0 = true then (some 1) else (some 0)
set_option maxHeartbeats 8000000 in
set_option maxRecDepth 100000 in
theorem expr_truth.calls (a0 : Bool) (r : Int) (w : World) (h : expr_truth.f a0 = some r) :
  Calls Tryd.prog 99 #[.bool a0] w fun e w' => e = .returned (.int .i64 r) ∧ Drawn0 w w' := by
 have H : (if a0 = true then (some 1) else (some 0)) = some r := h
 clear h
 by_cases c2 : a0 = true
 ·subst c2
  rw [if_pos rfl] at H
  obtain rfl := Option.some.inj H
  go_enter Tryd.func99, Tryd.ntmps99
  go_wp2
  go_ret
  exact ⟨by first | rfl | (simp; done) | (simp [*]; done), by repeat (first | exact Drawn0.refl _ | apply Drawn0.step)⟩
 ·replace c2 := Bool.eq_false_iff.mpr c2
  subst c2
  rw [if_neg qf] at H
  obtain rfl := Option.some.inj H
  go_enter Tryd.func99, Tryd.ntmps99
  go_wp2
  go_ret
  exact ⟨by first | rfl | (simp; done) | (simp [*]; done), by repeat (first | exact Drawn0.refl _ | apply Drawn0.step)⟩
def expr_divide.j0 : Nat → Int → Int → Int → Bool → Option (Int × Int)
  | 0, _, _, _, _ => none
  | k + 1, x0, x1, x2, x11 => if x11 = true then (some (0, 0)) else (if x0 = 8 then (if x2 = 0 then (none) else (some (Int.tmod x1 x2, 0))) else (if x2 = (-1) then ((expr_minus.f 0 x1).bind fun bt101 => (some (bt101.1, bt101.2))) else (if x2 = 0 then (none) else (some (wrap64 (Int.tdiv x1 x2), 0)))))
def expr_divide.f (k : Nat) (a0 : Int) (a1 : Int) (a2 : Int) : Option (Int × Int) := if a2 = 0 then (some (0, 23)) else (if a0 = 8 then (expr_divide.j0 k a0 a1 a2 (a2 == (-1))) else (expr_divide.j0 k a0 a1 a2 false))
theorem expr_divide.mono_l : ∀ k, (∀ y0 y1 y2 y3, LeO (expr_divide.j0 k y0 y1 y2 y3) (expr_divide.j0 (k + 1) y0 y1 y2 y3))
  | 0 => fun _ _ _ _ r h => by simp [expr_divide.j0] at h
  | k + 1 => by
    have ih0 := expr_divide.mono_l k
    · intro y0 y1 y2 y3
      unfold expr_divide.j0
      repeat' first
      | (with_reducible exact ih0 _ _ _ _)
      | (with_reducible exact LeO.refl _)
      | (with_reducible exact LeO.none _)
      | (with_reducible refine LeO.ite ?_ ?_)
      | (with_reducible refine LeO.bind ?_ (fun _ => ?_))
      | exact ih0 _ _ _ _
      | exact LeO.none _
      | refine LeO.ite ?_ ?_
      | refine LeO.bind ?_ (fun _ => ?_)
theorem expr_divide.mono : ∀ a0 a1 a2 k, LeO (expr_divide.f k a0 a1 a2) (expr_divide.f (k + 1) a0 a1 a2) := by
  intro a0 a1 a2 k
  have ih0 := expr_divide.mono_l k
  unfold expr_divide.f
  repeat' first
      | (with_reducible exact ih0 _ _ _ _)
      | (with_reducible exact LeO.refl _)
      | (with_reducible exact LeO.none _)
      | (with_reducible refine LeO.ite ?_ ?_)
      | (with_reducible refine LeO.bind ?_ (fun _ => ?_))
      | exact ih0 _ _ _ _
      | exact LeO.none _
      | refine LeO.ite ?_ ?_
      | refine LeO.bind ?_ (fun _ => ?_)
set_option maxHeartbeats 8000000 in
set_option maxRecDepth 100000 in
theorem expr_divide.calls (k : Nat) (a0 : Int) (a1 : Int) (a2 : Int) (r1 : Int) (r2 : Int) (w : World) (h : expr_divide.f k a0 a1 a2 = some (r1, r2)) :
  Calls Tryd.prog 134 #[.int .i64 a0, .int .i64 a1, .int .i64 a2] w fun e w' => e = .returned (.tuple #[.int .i64 r1, .int .i64 r2]) ∧ Drawn0 w w' := by
 have H : (if a2 = 0 then (some (0, 23)) else (if a0 = 8 then (expr_divide.j0 k a0 a1 a2 (a2 == (-1))) else (expr_divide.j0 k a0 a1 a2 false))) = some (r1, r2) := h
 clear h
 by_cases c4 : a2 = 0
 ·rw [if_pos c4] at H
  obtain ⟨c4b0, c4b1⟩ := qe c4
  clear c4
  simp only [Option.some.injEq, Prod.mk.injEq] at H
  obtain ⟨rfl, rfl⟩ := H
  go_enter Tryd.func134, Tryd.ntmps134
  go_wp2
  go_ret2
  exact ⟨by first | rfl | (simp; done) | (simp [*]; done), by repeat (first | exact Drawn0.refl _ | apply Drawn0.step)⟩
 ·rw [if_neg c4] at H
  obtain ⟨c4b0, c4b1⟩ := qd c4
  have HC5 := Aside0.mk H
  clear H
  go_enter Tryd.func134, Tryd.ntmps134
  go_upto_region 3 with (fail)
  go_cut [11] (fun v11 wc => ∃ (kq : Nat) (x11_4 : Bool), v11 = .bool x11_4 ∧ Aside0 (expr_divide.j0 kq a0 a1 a2 x11_4 = some (r1, r2)) ∧ Aside0 (kq ≤ k) ∧ Drawn0 w wc)
  case first =>
   have H := HC5.out
   clear HC5
   by_cases c6 : a0 = 8
   ·rw [if_pos c6] at H
    obtain ⟨c6b0, c6b1⟩ := qe c6
    clear c6
    (first | rw [c6b0] | (simp only [i64_w, i32_w]; rw [c6b0]) | skip)
    have H' := Aside0.mk H
    clear H
    go_wp2
    go_meet
    case rel => exact ⟨_, ((a2 == (-1))), qv, H', ql, by repeat (first | exact Drawn0.refl _ | apply Drawn0.step)⟩
   ·rw [if_neg c6] at H
    obtain ⟨c6b0, c6b1⟩ := qd c6
    (first | rw [c6b0] | (simp only [i64_w, i32_w]; rw [c6b0]) | skip)
    have H' := Aside0.mk H
    clear H
    go_wp2
    go_meet
    case rel => exact ⟨_, (false), qv, H', ql, by repeat (first | exact Drawn0.refl _ | apply Drawn0.step)⟩
  case rest =>
   clear HC5
   obtain ⟨kq, x11_4, rfl, HA, HJ4, ⟨mc4, rfl⟩⟩ := hcut
   cases kq with
   | zero => exact absurd HA.out (by simp [expr_divide.j0])
   | succ kj4 =>
    have H := HA.out
    clear HA
    simp only [expr_divide.j0] at H
    by_cases c7 : x11_4 = true
    ·subst c7
     rw [if_pos rfl] at H
     simp only [Option.some.injEq, Prod.mk.injEq] at H
     obtain ⟨rfl, rfl⟩ := H
     go_wp2
     go_ret2
     exact ⟨by first | rfl | (simp; done) | (simp [*]; done), by repeat (first | exact Drawn0.refl _ | apply Drawn0.step)⟩
    ·replace c7 := Bool.eq_false_iff.mpr c7
     subst c7
     rw [if_neg qf] at H
     by_cases c8 : a0 = 8
     ·rw [if_pos c8] at H
      obtain ⟨c8b0, c8b1⟩ := qe c8
      clear c8
      by_cases c9 : a2 = 0
      ·rw [if_pos c9] at H
       exact absurd H (by simp)
      ·rw [if_neg c9] at H
       obtain ⟨c9b0, c9b1⟩ := qd c9
       simp only [Option.some.injEq, Prod.mk.injEq] at H
       obtain ⟨rfl, rfl⟩ := H
       go_wp2
       go_ret2
       exact ⟨by first | rfl | (simp; done) | (simp [*]; done), by repeat (first | exact Drawn0.refl _ | apply Drawn0.step)⟩
     ·rw [if_neg c8] at H
      obtain ⟨c8b0, c8b1⟩ := qd c8
      by_cases c10 : a2 = (-1)
      ·rw [if_pos c10] at H
       obtain ⟨c10b0, c10b1⟩ := qe c10
       clear c10
       replace H := qi H
       obtain ⟨⟨t101, t102⟩, A11, H⟩ := H
       replace H : (some (t101, t102)) = some (r1, r2) := H
       simp only [Option.some.injEq, Prod.mk.injEq] at H
       obtain ⟨rfl, rfl⟩ := H
       go_wp2_with (first | ((with_reducible refine gate_callee (f := 98) rfl ?_); refine goesL_ (some 28) rfl rfl Tryd.func98 (by kernel_rfl) rfl #[.int .i64 0, .int .i64 a1] rfl qm ?_; (with_reducible refine (expr_minus.calls 0 a1 t101 t102 _ A11.out).mono ?_); rintro e w' ⟨rfl, ⟨nd, rfl⟩⟩; refine ⟨_, rfl, ?_⟩))
       go_ret2
       exact ⟨by first | rfl | (simp; done) | (simp [*]; done), by repeat (first | exact Drawn0.refl _ | apply Drawn0.step)⟩
      ·rw [if_neg c10] at H
       obtain ⟨c10b0, c10b1⟩ := qd c10
       by_cases c12 : a2 = 0
       ·rw [if_pos c12] at H
        exact absurd H (by simp)
       ·rw [if_neg c12] at H
        obtain ⟨c12b0, c12b1⟩ := qd c12
        simp only [Option.some.injEq, Prod.mk.injEq] at H
        obtain ⟨rfl, rfl⟩ := H
        go_wp2
        go_ret2
        exact ⟨by first | rfl | (simp; done) | (simp [*]; done), by repeat (first | exact Drawn0.refl _ | apply Drawn0.step)⟩
def expr_plus.f (a0 : Int) (a1 : Int) : Option (Int × Int) := if ((decide ((wrap64 (a0 + a1)) < a0)) != (decide (a1 < 0))) = true then (some (0, 22)) else (some (wrap64 (a0 + a1), 0))
set_option maxHeartbeats 8000000 in
set_option maxRecDepth 100000 in
theorem expr_plus.calls (a0 : Int) (a1 : Int) (r1 : Int) (r2 : Int) (w : World) (h : expr_plus.f a0 a1 = some (r1, r2)) :
  Calls Tryd.prog 132 #[.int .i64 a0, .int .i64 a1] w fun e w' => e = .returned (.tuple #[.int .i64 r1, .int .i64 r2]) ∧ Drawn0 w w' := by
 have H : (if ((decide ((wrap64 (a0 + a1)) < a0)) != (decide (a1 < 0))) = true then (some (0, 22)) else (some (wrap64 (a0 + a1), 0))) = some (r1, r2) := h
 clear h
 by_cases c3 : ((decide ((wrap64 (a0 + a1)) < a0)) != (decide (a1 < 0))) = true
 ·rw [if_pos c3] at H
  have c3b0 : ((decide ((wrap64 (a0 + a1)) < a0)) != (decide (a1 < 0))) = true := c3
  (try (have c3b1 : decide ((decide ((wrap64 (a0 + a1)) < a0)) = (decide (a1 < 0))) = false := by simpa using c3))
  (try (have c3b2 : ((decide ((wrap64 (a0 + a1)) < a0)) == (decide (a1 < 0))) = false := by simpa using c3))
  (try (have c3b3 : ¬ ((decide ((wrap64 (a0 + a1)) < a0)) = (decide (a1 < 0))) := by simpa using c3))
  clear c3
  simp only [Option.some.injEq, Prod.mk.injEq] at H
  obtain ⟨rfl, rfl⟩ := H
  go_enter Tryd.func132, Tryd.ntmps132
  go_wp2
  go_ret2
  exact ⟨by first | rfl | (simp; done) | (simp [*]; done), by repeat (first | exact Drawn0.refl _ | apply Drawn0.step)⟩
 ·rw [if_neg c3] at H
  have c3b0 : ((decide ((wrap64 (a0 + a1)) < a0)) != (decide (a1 < 0))) = false := by simpa using c3
  (try (have c3b1 : decide ((decide ((wrap64 (a0 + a1)) < a0)) = (decide (a1 < 0))) = true := by simpa using c3))
  (try (have c3b2 : ((decide ((wrap64 (a0 + a1)) < a0)) == (decide (a1 < 0))) = true := by simpa using c3))
  clear c3
  simp only [Option.some.injEq, Prod.mk.injEq] at H
  obtain ⟨rfl, rfl⟩ := H
  go_enter Tryd.func132, Tryd.ntmps132
  go_wp2
  go_ret2
  exact ⟨by first | rfl | (simp; done) | (simp [*]; done), by repeat (first | exact Drawn0.refl _ | apply Drawn0.step)⟩
def expr_size.f (a0 : Int) : Option (Int) := if a0 < 0 then (some (IntKind.u64.wrap (-(IntKind.u64.wrap (a0))))) else (some (IntKind.u64.wrap (a0)))
set_option maxHeartbeats 8000000 in
set_option maxRecDepth 100000 in
theorem expr_size.calls (a0 : Int) (r : Int) (w : World) (h : expr_size.f a0 = some r) :
  Calls Tryd.prog 152 #[.int .i64 a0] w fun e w' => e = .returned (.int .u64 r) ∧ Drawn0 w w' := by
 have H : (if a0 < 0 then (some (IntKind.u64.wrap (-(IntKind.u64.wrap (a0))))) else (some (IntKind.u64.wrap (a0)))) = some r := h
 clear h
 by_cases c2 : a0 < 0
 ·rw [if_pos c2] at H
  have c2b0 : decide (a0 < 0) = true := decide_eq_true c2
  clear c2
  obtain rfl := Option.some.inj H
  go_enter Tryd.func152, Tryd.ntmps152
  go_wp2
  go_ret
  exact ⟨by first | rfl | (simp; done) | (simp [*]; done), by repeat (first | exact Drawn0.refl _ | apply Drawn0.step)⟩
 ·rw [if_neg c2] at H
  have c2b0 : decide (a0 < 0) = false := decide_eq_false c2
  clear c2
  obtain rfl := Option.some.inj H
  go_enter Tryd.func152, Tryd.ntmps152
  go_wp2
  go_ret
  exact ⟨by first | rfl | (simp; done) | (simp [*]; done), by repeat (first | exact Drawn0.refl _ | apply Drawn0.step)⟩
end Go.Proofs.YtiaccdaeomaogaaDoor.F
namespace Go.Proofs
open Go.Shelf
def Tryd.lays264_ren : Go.Shelf.Ren := ⟨fun | 264 => 151 | n => n, fun | 53 => 188 | 46 => 184 | n => n, fun | n => n⟩
theorem Tryd.lays264 : Go.Proofs.Lays.n264 Tryd.prog Tryd.lays264_ren := {
  mixed := by kernel_rfl
  f264 := Tryd.func151.trans (congrArg some (by kernel_rfl))
  t46 := Tryd.underlying184
  a46 := Tryd.isAgg184
  z46 := Tryd.sizeOf184
  v46 := Tryd.zeroValue184
  t53 := Tryd.underlying188
  a53 := Tryd.isAgg188
  z53 := Tryd.sizeOf188
  v53 := Tryd.zeroValue188 }
open Go.RowKit Go.Lib in
theorem Tryd.bits_Mul64 (x y : Nat) (hx : x < 18446744073709551616) (hy : y < 18446744073709551616) (w : World) :
    Calls Tryd.prog 151 #[.int .u64 x, .int .u64 y] w fun e w' => e = .returned (.tuple #[.int .u64 ((x * y / 18446744073709551616 : Nat) : Int), .int .u64 ((x * y % 18446744073709551616 : Nat) : Int)]) ∧ w' = w := Any.bits_Mul64 Tryd.lays264 x y hx hy w
end Go.Proofs
namespace Go.Proofs.YtiaccdaeomaogaaDoor.F
open Go.RowKit Go.Proofs.YtiaccdaeomaogaaDoorW.PrintWords Go.Proofs.YtiaccdaeomaogaaDoorW.PrintLast Go.Proofs.YtiaccdaeomaogaaDoorW.PrintMore
attribute [local go_sem] max2_int min2_int max_two min_two max_three min_three max_four min_four   -- for this text's walks alone
set_option linter.unusedVariables false
set_option linter.unusedSimpArgs false
def I64 (a : Int) : Prop := -9223372036854775808 ≤ a ∧ a ≤ 9223372036854775807
instance (a : Int) : Decidable (I64 a) := by unfold I64; infer_instance
def expr_times.f (a0 : Int) (a1 : Int) : Option (Int × Int) := if I64 a0 ∧ I64 a1 then some (if I64 (a0 * a1) then (a0 * a1, 0) else (0, 22)) else none
theorem size_f (a : Int) (h : I64 a) : expr_size.f a = some (a.natAbs : Int) := by
 unfold I64 at h
 unfold expr_size.f
 split
 ·rw [IntKind.wrap_u64, IntKind.wrap_u64]; congr 1; omega
 ·rw [IntKind.wrap_u64]; congr 1; omega
theorem times_sign (a b : Int) : (decide (a < 0) = decide (b < 0) → a * b = ((a.natAbs * b.natAbs : Nat) : Int)) ∧ (decide (a < 0) ≠ decide (b < 0) → a * b = -((a.natAbs * b.natAbs : Nat) : Int)) := by
 rcases Int.natAbs_eq a with ha | ha <;> rcases Int.natAbs_eq b with hb | hb
 all_goals
  generalize a.natAbs = x at *
  generalize b.natAbs = y at *
  subst ha hb
  constructor
 ·intro _; simp
 ·intro h; exact absurd (by rw [decide_eq_false (by omega), decide_eq_false (by omega)]) h
 ·intro h
  by_cases hy : y = 0
  ·subst hy; simp
  ·rw [decide_eq_false (by omega), decide_eq_true (by omega)] at h; cases h
 ·intro _; simp [Int.mul_neg]
 ·intro h
  by_cases hx : x = 0
  ·subst hx; simp
  ·rw [decide_eq_true (by omega), decide_eq_false (by omega)] at h; cases h
 ·intro _; simp [Int.neg_mul]
 ·intro _; simp [Int.neg_mul_neg]
 ·intro h
  by_cases hx : x = 0
  ·subst hx; simp
  ·by_cases hy : y = 0
   ·subst hy; simp
   ·exact absurd (by rw [decide_eq_true (by omega), decide_eq_true (by omega)]) h
theorem ret_pair {a b c d : Int} (h : a = c) (h2 : b = d) : Ending.returned (.tuple #[.int .i64 a, .int .i64 b]) = .returned (.tuple #[.int .i64 c, .int .i64 d]) := by rw [h, h2]
set_option maxHeartbeats 8000000 in
set_option maxRecDepth 100000 in
theorem expr_times.calls (a0 : Int) (a1 : Int) (r1 : Int) (r2 : Int) (w : World) (h : expr_times.f a0 a1 = some (r1, r2)) :
  Calls Tryd.prog 133 #[.int .i64 a0, .int .i64 a1] w fun e w' => e = .returned (.tuple #[.int .i64 r1, .int .i64 r2]) ∧ Drawn0 w w' := by
 unfold expr_times.f at h
 by_cases hr : I64 a0 ∧ I64 a1
 case neg => rw [if_neg hr] at h; cases h
 rw [if_pos hr] at h
 obtain ⟨hr0, hr1⟩ := hr
 have A3 := Aside0.mk hr0
 have A4 := Aside0.mk hr1
 obtain ⟨hs, hd⟩ := times_sign a0 a1
 have hx : a0.natAbs < 18446744073709551616 := by unfold I64 at hr0; omega
 have hy : a1.natAbs < 18446744073709551616 := by unfold I64 at hr1; omega
 have HM := Aside0.mk (fun w' => Tryd.bits_Mul64 a0.natAbs a1.natAbs hx hy w')
 obtain ⟨t, ht⟩ : ∃ t : Int, a0 * a1 = t := ⟨_, rfl⟩
 obtain ⟨p, hp⟩ : ∃ p : Nat, a0.natAbs * a1.natAbs = p := ⟨_, rfl⟩
 rw [ht, hp] at hs hd
 rw [ht] at h
 rw [hp] at HM
 obtain ⟨hi, hhi⟩ : ∃ hi : Int, ((p / 18446744073709551616 : Nat) : Int) = hi := ⟨_, rfl⟩
 obtain ⟨lo, hlo⟩ : ∃ lo : Int, ((p % 18446744073709551616 : Nat) : Int) = lo := ⟨_, rfl⟩
 rw [hhi, hlo] at HM
 have hsp : (hi = 0 ↔ p < 18446744073709551616) ∧ 0 ≤ hi ∧ 0 ≤ lo ∧ lo < 18446744073709551616 ∧ (hi = 0 → lo = p) := by omega
 clear hx hy hp hhi hlo
 by_cases s0 : a0 < 0 <;> by_cases s1 : a1 < 0
 ·have g0 : decide (a0 < 0) = true := decide_eq_true s0
  have g1 : decide (a1 < 0) = true := decide_eq_true s1
  have hv := hs (by rw [g0, g1])
  by_cases hok : I64 t
  ·rw [if_pos hok] at h
   simp at h
   obtain ⟨rfl, rfl⟩ := h
   have f1 : decide (hi > 0) = false := decide_eq_false (by unfold I64 at hok; omega)
   have f2 : decide (lo > 9223372036854775807) = false := decide_eq_false (by unfold I64 at hok; omega)
   have HF : Aside0 (lo = t ∧ I64 t) := ⟨by unfold I64 at hok; omega, hok⟩
   clear s0 s1 hsp hok hr0 hr1 hs hd ht
   go_enter Tryd.func133, Tryd.ntmps133
   go_wp2_with (first | (go_at_call 152; (with_reducible refine (expr_size.calls _ _ _ (size_f _ (by first | exact A3.out | exact A4.out))).mono ?_); rintro e w' ⟨rfl, ⟨nd, rfl⟩⟩) | (go_at_call 151; refine (HM.out _).mono ?_; rintro e w' ⟨rfl, rfl⟩))
   go_ret2
   refine ⟨ret_pair ?_ rfl, by repeat (first | exact Drawn0.refl _ | apply Drawn0.step)⟩
   have hf := HF.out
   unfold I64 at hf
   (try simp only [IntKind.wrap_u64])
   unfold wrap64
   omega
  ·rw [if_neg hok] at h
   simp at h
   obtain ⟨rfl, rfl⟩ := h
   by_cases hz : hi = 0
   ·have f1 : decide (hi > 0) = false := decide_eq_false (by omega)
    have f2 : decide (lo > 9223372036854775807) = true := decide_eq_true (by unfold I64 at hok; omega)
    clear s0 s1 hsp hok hr0 hr1 hs hd ht hz
    go_enter Tryd.func133, Tryd.ntmps133
    go_wp2_with (first | (go_at_call 152; (with_reducible refine (expr_size.calls _ _ _ (size_f _ (by first | exact A3.out | exact A4.out))).mono ?_); rintro e w' ⟨rfl, ⟨nd, rfl⟩⟩) | (go_at_call 151; refine (HM.out _).mono ?_; rintro e w' ⟨rfl, rfl⟩))
    go_ret2
    exact ⟨rfl, by repeat (first | exact Drawn0.refl _ | apply Drawn0.step)⟩
   ·have f1 : decide (hi > 0) = true := decide_eq_true (by omega)
    clear s0 s1 hsp hok hr0 hr1 hs hd ht hz
    go_enter Tryd.func133, Tryd.ntmps133
    go_wp2_with (first | (go_at_call 152; (with_reducible refine (expr_size.calls _ _ _ (size_f _ (by first | exact A3.out | exact A4.out))).mono ?_); rintro e w' ⟨rfl, ⟨nd, rfl⟩⟩) | (go_at_call 151; refine (HM.out _).mono ?_; rintro e w' ⟨rfl, rfl⟩))
    go_ret2
    exact ⟨rfl, by repeat (first | exact Drawn0.refl _ | apply Drawn0.step)⟩
 ·have g0 : decide (a0 < 0) = true := decide_eq_true s0
  have g1 : decide (a1 < 0) = false := decide_eq_false s1
  have hv := hd (by rw [g0, g1]; decide)
  by_cases hok : I64 t
  ·rw [if_pos hok] at h
   simp at h
   obtain ⟨rfl, rfl⟩ := h
   have f1 : decide (hi > 0) = false := decide_eq_false (by unfold I64 at hok; omega)
   have f2 : decide (lo > 9223372036854775808) = false := decide_eq_false (by unfold I64 at hok; omega)
   have HF : Aside0 (lo = -t ∧ I64 t) := ⟨by unfold I64 at hok; omega, hok⟩
   clear s0 s1 hsp hok hr0 hr1 hs hd ht
   go_enter Tryd.func133, Tryd.ntmps133
   go_wp2_with (first | (go_at_call 152; (with_reducible refine (expr_size.calls _ _ _ (size_f _ (by first | exact A3.out | exact A4.out))).mono ?_); rintro e w' ⟨rfl, ⟨nd, rfl⟩⟩) | (go_at_call 151; refine (HM.out _).mono ?_; rintro e w' ⟨rfl, rfl⟩))
   go_ret2
   refine ⟨ret_pair ?_ rfl, by repeat (first | exact Drawn0.refl _ | apply Drawn0.step)⟩
   have hf := HF.out
   unfold I64 at hf
   (try simp only [IntKind.wrap_u64])
   unfold wrap64
   omega
  ·rw [if_neg hok] at h
   simp at h
   obtain ⟨rfl, rfl⟩ := h
   by_cases hz : hi = 0
   ·have f1 : decide (hi > 0) = false := decide_eq_false (by omega)
    have f2 : decide (lo > 9223372036854775808) = true := decide_eq_true (by unfold I64 at hok; omega)
    clear s0 s1 hsp hok hr0 hr1 hs hd ht hz
    go_enter Tryd.func133, Tryd.ntmps133
    go_wp2_with (first | (go_at_call 152; (with_reducible refine (expr_size.calls _ _ _ (size_f _ (by first | exact A3.out | exact A4.out))).mono ?_); rintro e w' ⟨rfl, ⟨nd, rfl⟩⟩) | (go_at_call 151; refine (HM.out _).mono ?_; rintro e w' ⟨rfl, rfl⟩))
    go_ret2
    exact ⟨rfl, by repeat (first | exact Drawn0.refl _ | apply Drawn0.step)⟩
   ·have f1 : decide (hi > 0) = true := decide_eq_true (by omega)
    clear s0 s1 hsp hok hr0 hr1 hs hd ht hz
    go_enter Tryd.func133, Tryd.ntmps133
    go_wp2_with (first | (go_at_call 152; (with_reducible refine (expr_size.calls _ _ _ (size_f _ (by first | exact A3.out | exact A4.out))).mono ?_); rintro e w' ⟨rfl, ⟨nd, rfl⟩⟩) | (go_at_call 151; refine (HM.out _).mono ?_; rintro e w' ⟨rfl, rfl⟩))
    go_ret2
    exact ⟨rfl, by repeat (first | exact Drawn0.refl _ | apply Drawn0.step)⟩
 ·have g0 : decide (a0 < 0) = false := decide_eq_false s0
  have g1 : decide (a1 < 0) = true := decide_eq_true s1
  have hv := hd (by rw [g0, g1]; decide)
  by_cases hok : I64 t
  ·rw [if_pos hok] at h
   simp at h
   obtain ⟨rfl, rfl⟩ := h
   have f1 : decide (hi > 0) = false := decide_eq_false (by unfold I64 at hok; omega)
   have f2 : decide (lo > 9223372036854775808) = false := decide_eq_false (by unfold I64 at hok; omega)
   have HF : Aside0 (lo = -t ∧ I64 t) := ⟨by unfold I64 at hok; omega, hok⟩
   clear s0 s1 hsp hok hr0 hr1 hs hd ht
   go_enter Tryd.func133, Tryd.ntmps133
   go_wp2_with (first | (go_at_call 152; (with_reducible refine (expr_size.calls _ _ _ (size_f _ (by first | exact A3.out | exact A4.out))).mono ?_); rintro e w' ⟨rfl, ⟨nd, rfl⟩⟩) | (go_at_call 151; refine (HM.out _).mono ?_; rintro e w' ⟨rfl, rfl⟩))
   go_ret2
   refine ⟨ret_pair ?_ rfl, by repeat (first | exact Drawn0.refl _ | apply Drawn0.step)⟩
   have hf := HF.out
   unfold I64 at hf
   (try simp only [IntKind.wrap_u64])
   unfold wrap64
   omega
  ·rw [if_neg hok] at h
   simp at h
   obtain ⟨rfl, rfl⟩ := h
   by_cases hz : hi = 0
   ·have f1 : decide (hi > 0) = false := decide_eq_false (by omega)
    have f2 : decide (lo > 9223372036854775808) = true := decide_eq_true (by unfold I64 at hok; omega)
    clear s0 s1 hsp hok hr0 hr1 hs hd ht hz
    go_enter Tryd.func133, Tryd.ntmps133
    go_wp2_with (first | (go_at_call 152; (with_reducible refine (expr_size.calls _ _ _ (size_f _ (by first | exact A3.out | exact A4.out))).mono ?_); rintro e w' ⟨rfl, ⟨nd, rfl⟩⟩) | (go_at_call 151; refine (HM.out _).mono ?_; rintro e w' ⟨rfl, rfl⟩))
    go_ret2
    exact ⟨rfl, by repeat (first | exact Drawn0.refl _ | apply Drawn0.step)⟩
   ·have f1 : decide (hi > 0) = true := decide_eq_true (by omega)
    clear s0 s1 hsp hok hr0 hr1 hs hd ht hz
    go_enter Tryd.func133, Tryd.ntmps133
    go_wp2_with (first | (go_at_call 152; (with_reducible refine (expr_size.calls _ _ _ (size_f _ (by first | exact A3.out | exact A4.out))).mono ?_); rintro e w' ⟨rfl, ⟨nd, rfl⟩⟩) | (go_at_call 151; refine (HM.out _).mono ?_; rintro e w' ⟨rfl, rfl⟩))
    go_ret2
    exact ⟨rfl, by repeat (first | exact Drawn0.refl _ | apply Drawn0.step)⟩
 ·have g0 : decide (a0 < 0) = false := decide_eq_false s0
  have g1 : decide (a1 < 0) = false := decide_eq_false s1
  have hv := hs (by rw [g0, g1])
  by_cases hok : I64 t
  ·rw [if_pos hok] at h
   simp at h
   obtain ⟨rfl, rfl⟩ := h
   have f1 : decide (hi > 0) = false := decide_eq_false (by unfold I64 at hok; omega)
   have f2 : decide (lo > 9223372036854775807) = false := decide_eq_false (by unfold I64 at hok; omega)
   have HF : Aside0 (lo = t ∧ I64 t) := ⟨by unfold I64 at hok; omega, hok⟩
   clear s0 s1 hsp hok hr0 hr1 hs hd ht
   go_enter Tryd.func133, Tryd.ntmps133
   go_wp2_with (first | (go_at_call 152; (with_reducible refine (expr_size.calls _ _ _ (size_f _ (by first | exact A3.out | exact A4.out))).mono ?_); rintro e w' ⟨rfl, ⟨nd, rfl⟩⟩) | (go_at_call 151; refine (HM.out _).mono ?_; rintro e w' ⟨rfl, rfl⟩))
   go_ret2
   refine ⟨ret_pair ?_ rfl, by repeat (first | exact Drawn0.refl _ | apply Drawn0.step)⟩
   have hf := HF.out
   unfold I64 at hf
   (try simp only [IntKind.wrap_u64])
   unfold wrap64
   omega
  ·rw [if_neg hok] at h
   simp at h
   obtain ⟨rfl, rfl⟩ := h
   by_cases hz : hi = 0
   ·have f1 : decide (hi > 0) = false := decide_eq_false (by omega)
    have f2 : decide (lo > 9223372036854775807) = true := decide_eq_true (by unfold I64 at hok; omega)
    clear s0 s1 hsp hok hr0 hr1 hs hd ht hz
    go_enter Tryd.func133, Tryd.ntmps133
    go_wp2_with (first | (go_at_call 152; (with_reducible refine (expr_size.calls _ _ _ (size_f _ (by first | exact A3.out | exact A4.out))).mono ?_); rintro e w' ⟨rfl, ⟨nd, rfl⟩⟩) | (go_at_call 151; refine (HM.out _).mono ?_; rintro e w' ⟨rfl, rfl⟩))
    go_ret2
    exact ⟨rfl, by repeat (first | exact Drawn0.refl _ | apply Drawn0.step)⟩
   ·have f1 : decide (hi > 0) = true := decide_eq_true (by omega)
    clear s0 s1 hsp hok hr0 hr1 hs hd ht hz
    go_enter Tryd.func133, Tryd.ntmps133
    go_wp2_with (first | (go_at_call 152; (with_reducible refine (expr_size.calls _ _ _ (size_f _ (by first | exact A3.out | exact A4.out))).mono ?_); rintro e w' ⟨rfl, ⟨nd, rfl⟩⟩) | (go_at_call 151; refine (HM.out _).mono ?_; rintro e w' ⟨rfl, rfl⟩))
    go_ret2
    exact ⟨rfl, by repeat (first | exact Drawn0.refl _ | apply Drawn0.step)⟩
def expr_two.j0 : Nat → Int → Int → Int → Int → Bool → Option (Int × Int)
  | 0, _, _, _, _, _ => none
  | k + 1, x0, x1, x2, x8, x30 => if x30 = true then ((expr_divide.f k x0 x1 x2).bind fun bt107 => (some (bt107.1, bt107.2))) else (if x8 = 9 then ((expr_truth.f (decide (x1 < x2))).bind fun t109 => (some (t109, 0))) else (if x8 = 10 then ((expr_truth.f (decide (x1 ≤ x2))).bind fun t110 => (some (t110, 0))) else (if x8 = 11 then ((expr_truth.f (decide (x1 > x2))).bind fun t111 => (some (t111, 0))) else (if x8 = 12 then ((expr_truth.f (decide (x1 ≥ x2))).bind fun t112 => (some (t112, 0))) else (if x8 = 13 then ((expr_truth.f (x1 == x2)).bind fun t113 => (some (t113, 0))) else (if x8 = 14 then ((expr_truth.f (x1 != x2)).bind fun t114 => (some (t114, 0))) else (if x8 = 15 then (if x1 = 0 then ((expr_truth.f false).bind fun t115 => (some (t115, 0))) else ((expr_truth.f (x2 != 0)).bind fun t116 => (some (t116, 0)))) else (if x1 = 0 then ((expr_truth.f (x2 != 0)).bind fun t117 => (some (t117, 0))) else ((expr_truth.f true).bind fun t118 => (some (t118, 0)))))))))))
def expr_two.f (k : Nat) (a0 : Int) (a1 : Int) (a2 : Int) : Option (Int × Int) := if a0 = 4 then ((expr_plus.f a1 a2).bind fun bt101 => (some (bt101.1, bt101.2))) else (if a0 = 5 then ((expr_minus.f a1 a2).bind fun bt103 => (some (bt103.1, bt103.2))) else (if a0 = 6 then ((expr_times.f a1 a2).bind fun bt105 => (some (bt105.1, bt105.2))) else (if a0 = 7 then (expr_two.j0 k a0 a1 a2 a0 (a0 == 7)) else (expr_two.j0 k a0 a1 a2 a0 (a0 == 8)))))
theorem expr_two.mono_l : ∀ k, (∀ y0 y1 y2 y3 y4, LeO (expr_two.j0 k y0 y1 y2 y3 y4) (expr_two.j0 (k + 1) y0 y1 y2 y3 y4))
  | 0 => fun _ _ _ _ _ r h => by simp [expr_two.j0] at h
  | k + 1 => by
    have ih0 := expr_two.mono_l k
    · intro y0 y1 y2 y3 y4
      unfold expr_two.j0
      repeat' first
      | (with_reducible exact ih0 _ _ _ _ _)
      | (with_reducible exact expr_divide.mono _ _ _ _)
      | (with_reducible exact LeO.refl _)
      | (with_reducible exact LeO.none _)
      | (with_reducible refine LeO.ite ?_ ?_)
      | (with_reducible refine LeO.bind ?_ (fun _ => ?_))
      | exact ih0 _ _ _ _ _
      | exact expr_divide.mono _ _ _ _
      | exact LeO.none _
      | refine LeO.ite ?_ ?_
      | refine LeO.bind ?_ (fun _ => ?_)
theorem expr_two.mono : ∀ a0 a1 a2 k, LeO (expr_two.f k a0 a1 a2) (expr_two.f (k + 1) a0 a1 a2) := by
  intro a0 a1 a2 k
  have ih0 := expr_two.mono_l k
  unfold expr_two.f
  repeat' first
      | (with_reducible exact ih0 _ _ _ _ _)
      | (with_reducible exact expr_divide.mono _ _ _ _)
      | (with_reducible exact LeO.refl _)
      | (with_reducible exact LeO.none _)
      | (with_reducible refine LeO.ite ?_ ?_)
      | (with_reducible refine LeO.bind ?_ (fun _ => ?_))
      | exact ih0 _ _ _ _ _
      | exact expr_divide.mono _ _ _ _
      | exact LeO.none _
      | refine LeO.ite ?_ ?_
      | refine LeO.bind ?_ (fun _ => ?_)
set_option maxHeartbeats 8000000 in
set_option maxRecDepth 100000 in
theorem expr_two.calls (k : Nat) (a0 : Int) (a1 : Int) (a2 : Int) (r1 : Int) (r2 : Int) (w : World) (h : expr_two.f k a0 a1 a2 = some (r1, r2)) :
  Calls Tryd.prog 100 #[.int .i64 a0, .int .i64 a1, .int .i64 a2] w fun e w' => e = .returned (.tuple #[.int .i64 r1, .int .i64 r2]) ∧ Drawn0 w w' := by
 have H : (if a0 = 4 then ((expr_plus.f a1 a2).bind fun bt101 => (some (bt101.1, bt101.2))) else (if a0 = 5 then ((expr_minus.f a1 a2).bind fun bt103 => (some (bt103.1, bt103.2))) else (if a0 = 6 then ((expr_times.f a1 a2).bind fun bt105 => (some (bt105.1, bt105.2))) else (if a0 = 7 then (expr_two.j0 k a0 a1 a2 a0 (a0 == 7)) else (expr_two.j0 k a0 a1 a2 a0 (a0 == 8)))))) = some (r1, r2) := h
 clear h
 by_cases c4 : a0 = 4
 ·rw [if_pos c4] at H
  obtain ⟨c4b0, c4b1⟩ := qe c4
  clear c4
  replace H := qi H
  obtain ⟨⟨t101, t102⟩, A5, H⟩ := H
  replace H : (some (t101, t102)) = some (r1, r2) := H
  simp only [Option.some.injEq, Prod.mk.injEq] at H
  obtain ⟨rfl, rfl⟩ := H
  go_enter Tryd.func100, Tryd.ntmps100
  go_wp2_with (first | ((with_reducible refine gate_callee (f := 132) rfl ?_); refine goesL_ (some 13) rfl rfl Tryd.func132 (by kernel_rfl) rfl #[.int .i64 a1, .int .i64 a2] rfl qm ?_; (with_reducible refine (expr_plus.calls a1 a2 t101 t102 _ A5.out).mono ?_); rintro e w' ⟨rfl, ⟨nd, rfl⟩⟩; refine ⟨_, rfl, ?_⟩))
  go_ret2
  exact ⟨by first | rfl | (simp; done) | (simp [*]; done), by repeat (first | exact Drawn0.refl _ | apply Drawn0.step)⟩
 ·rw [if_neg c4] at H
  obtain ⟨c4b0, c4b1⟩ := qd c4
  by_cases c6 : a0 = 5
  ·rw [if_pos c6] at H
   obtain ⟨c6b0, c6b1⟩ := qe c6
   clear c6
   replace H := qi H
   obtain ⟨⟨t103, t104⟩, A7, H⟩ := H
   replace H : (some (t103, t104)) = some (r1, r2) := H
   simp only [Option.some.injEq, Prod.mk.injEq] at H
   obtain ⟨rfl, rfl⟩ := H
   go_enter Tryd.func100, Tryd.ntmps100
   go_wp2_with (first | ((with_reducible refine gate_callee (f := 98) rfl ?_); refine goesL_ (some 20) rfl rfl Tryd.func98 (by kernel_rfl) rfl #[.int .i64 a1, .int .i64 a2] rfl qm ?_; (with_reducible refine (expr_minus.calls a1 a2 t103 t104 _ A7.out).mono ?_); rintro e w' ⟨rfl, ⟨nd, rfl⟩⟩; refine ⟨_, rfl, ?_⟩))
   go_ret2
   exact ⟨by first | rfl | (simp; done) | (simp [*]; done), by repeat (first | exact Drawn0.refl _ | apply Drawn0.step)⟩
  ·rw [if_neg c6] at H
   obtain ⟨c6b0, c6b1⟩ := qd c6
   by_cases c8 : a0 = 6
   ·rw [if_pos c8] at H
    obtain ⟨c8b0, c8b1⟩ := qe c8
    clear c8
    replace H := qi H
    obtain ⟨⟨t105, t106⟩, A9, H⟩ := H
    replace H : (some (t105, t106)) = some (r1, r2) := H
    simp only [Option.some.injEq, Prod.mk.injEq] at H
    obtain ⟨rfl, rfl⟩ := H
    go_enter Tryd.func100, Tryd.ntmps100
    go_wp2_with (first | ((with_reducible refine gate_callee (f := 133) rfl ?_); refine goesL_ (some 27) rfl rfl Tryd.func133 (by kernel_rfl) rfl #[.int .i64 a1, .int .i64 a2] rfl qm ?_; (with_reducible refine (expr_times.calls a1 a2 t105 t106 _ A9.out).mono ?_); rintro e w' ⟨rfl, ⟨nd, rfl⟩⟩; refine ⟨_, rfl, ?_⟩))
    go_ret2
    exact ⟨by first | rfl | (simp; done) | (simp [*]; done), by repeat (first | exact Drawn0.refl _ | apply Drawn0.step)⟩
   ·rw [if_neg c8] at H
    obtain ⟨c8b0, c8b1⟩ := qd c8
    have HC10 := Aside0.mk H
    clear H
    go_enter Tryd.func100, Tryd.ntmps100
    go_upto_if 30 with (fail)
    go_cut [30] (fun v30 wc => ∃ (kq : Nat) (x30_9 : Bool), v30 = .bool x30_9 ∧ Aside0 (expr_two.j0 kq a0 a1 a2 a0 x30_9 = some (r1, r2)) ∧ Aside0 (kq ≤ k) ∧ Drawn0 w wc)
    case first =>
     have H := HC10.out
     clear HC10
     by_cases c11 : a0 = 7
     ·rw [if_pos c11] at H
      obtain ⟨c11b0, c11b1⟩ := qe c11
      clear c11
      (first | rw [c11b0] | (simp only [i64_w, i32_w]; rw [c11b0]) | skip)
      have H' := Aside0.mk H
      clear H
      go_wp2
      go_meet
      case rel => exact ⟨_, ((a0 == 7)), qv, H', ql, by repeat (first | exact Drawn0.refl _ | apply Drawn0.step)⟩
     ·rw [if_neg c11] at H
      obtain ⟨c11b0, c11b1⟩ := qd c11
      (first | rw [c11b0] | (simp only [i64_w, i32_w]; rw [c11b0]) | skip)
      have H' := Aside0.mk H
      clear H
      go_wp2
      go_meet
      case rel => exact ⟨_, ((a0 == 8)), qv, H', ql, by repeat (first | exact Drawn0.refl _ | apply Drawn0.step)⟩
    case rest =>
     clear HC10
     obtain ⟨kq, x30_9, rfl, HA, HJ9, ⟨mc9, rfl⟩⟩ := hcut
     cases kq with
     | zero => exact absurd HA.out (by simp [expr_two.j0])
     | succ kj9 =>
      have H := HA.out
      clear HA
      simp only [expr_two.j0] at H
      by_cases c12 : x30_9 = true
      ·subst c12
       rw [if_pos rfl] at H
       replace H := qi H
       obtain ⟨⟨t107, t108⟩, A13, H⟩ := H
       replace H : (some (t107, t108)) = some (r1, r2) := H
       simp only [Option.some.injEq, Prod.mk.injEq] at H
       obtain ⟨rfl, rfl⟩ := H
       go_wp2_with (first | ((with_reducible refine gate_callee (f := 134) rfl ?_); refine goesL_ (some 36) rfl rfl Tryd.func134 (by kernel_rfl) rfl #[.int .i64 a0, .int .i64 a1, .int .i64 a2] rfl qm ?_; (with_reducible refine (expr_divide.calls kj9 a0 a1 a2 t107 t108 _ A13.out).mono ?_); rintro e w' ⟨rfl, ⟨nd, rfl⟩⟩; refine ⟨_, rfl, ?_⟩))
       go_ret2
       exact ⟨by first | rfl | (simp; done) | (simp [*]; done), by repeat (first | exact Drawn0.refl _ | apply Drawn0.step)⟩
      ·replace c12 := Bool.eq_false_iff.mpr c12
       subst c12
       rw [if_neg qf] at H
       by_cases c14 : a0 = 9
       ·rw [if_pos c14] at H
        obtain ⟨c14b0, c14b1⟩ := qe c14
        clear c14
        replace H := qi H
        obtain ⟨t109, A15, H⟩ := H
        simp only [Option.some.injEq, Prod.mk.injEq] at H
        obtain ⟨rfl, rfl⟩ := H
        go_wp2_with (first | ((with_reducible refine gate_callee (f := 99) rfl ?_); refine goesL_ (some 44) rfl rfl Tryd.func99 (by kernel_rfl) rfl #[.bool (decide (a1 < a2))] rfl qm ?_; (with_reducible refine (expr_truth.calls (decide (a1 < a2)) t109 _ A15.out).mono ?_); rintro e w' ⟨rfl, ⟨nd, rfl⟩⟩; refine ⟨_, rfl, ?_⟩))
        go_ret2
        exact ⟨by first | rfl | (simp; done) | (simp [*]; done), by repeat (first | exact Drawn0.refl _ | apply Drawn0.step)⟩
       ·rw [if_neg c14] at H
        obtain ⟨c14b0, c14b1⟩ := qd c14
        by_cases c16 : a0 = 10
        ·rw [if_pos c16] at H
         obtain ⟨c16b0, c16b1⟩ := qe c16
         clear c16
         replace H := qi H
         obtain ⟨t110, A17, H⟩ := H
         simp only [Option.some.injEq, Prod.mk.injEq] at H
         obtain ⟨rfl, rfl⟩ := H
         go_wp2_with (first | ((with_reducible refine gate_callee (f := 99) rfl ?_); refine goesL_ (some 50) rfl rfl Tryd.func99 (by kernel_rfl) rfl #[.bool (decide (a1 ≤ a2))] rfl qm ?_; (with_reducible refine (expr_truth.calls (decide (a1 ≤ a2)) t110 _ A17.out).mono ?_); rintro e w' ⟨rfl, ⟨nd, rfl⟩⟩; refine ⟨_, rfl, ?_⟩))
         go_ret2
         exact ⟨by first | rfl | (simp; done) | (simp [*]; done), by repeat (first | exact Drawn0.refl _ | apply Drawn0.step)⟩
        ·rw [if_neg c16] at H
         obtain ⟨c16b0, c16b1⟩ := qd c16
         by_cases c18 : a0 = 11
         ·rw [if_pos c18] at H
          obtain ⟨c18b0, c18b1⟩ := qe c18
          clear c18
          replace H := qi H
          obtain ⟨t111, A19, H⟩ := H
          simp only [Option.some.injEq, Prod.mk.injEq] at H
          obtain ⟨rfl, rfl⟩ := H
          go_wp2_with (first | ((with_reducible refine gate_callee (f := 99) rfl ?_); refine goesL_ (some 56) rfl rfl Tryd.func99 (by kernel_rfl) rfl #[.bool (decide (a1 > a2))] rfl qm ?_; (with_reducible refine (expr_truth.calls (decide (a1 > a2)) t111 _ A19.out).mono ?_); rintro e w' ⟨rfl, ⟨nd, rfl⟩⟩; refine ⟨_, rfl, ?_⟩))
          go_ret2
          exact ⟨by first | rfl | (simp; done) | (simp [*]; done), by repeat (first | exact Drawn0.refl _ | apply Drawn0.step)⟩
         ·rw [if_neg c18] at H
          obtain ⟨c18b0, c18b1⟩ := qd c18
          by_cases c20 : a0 = 12
          ·rw [if_pos c20] at H
           obtain ⟨c20b0, c20b1⟩ := qe c20
           clear c20
           replace H := qi H
           obtain ⟨t112, A21, H⟩ := H
           simp only [Option.some.injEq, Prod.mk.injEq] at H
           obtain ⟨rfl, rfl⟩ := H
           go_wp2_with (first | ((with_reducible refine gate_callee (f := 99) rfl ?_); refine goesL_ (some 62) rfl rfl Tryd.func99 (by kernel_rfl) rfl #[.bool (decide (a1 ≥ a2))] rfl qm ?_; (with_reducible refine (expr_truth.calls (decide (a1 ≥ a2)) t112 _ A21.out).mono ?_); rintro e w' ⟨rfl, ⟨nd, rfl⟩⟩; refine ⟨_, rfl, ?_⟩))
           go_ret2
           exact ⟨by first | rfl | (simp; done) | (simp [*]; done), by repeat (first | exact Drawn0.refl _ | apply Drawn0.step)⟩
          ·rw [if_neg c20] at H
           obtain ⟨c20b0, c20b1⟩ := qd c20
           by_cases c22 : a0 = 13
           ·rw [if_pos c22] at H
            obtain ⟨c22b0, c22b1⟩ := qe c22
            clear c22
            replace H := qi H
            obtain ⟨t113, A23, H⟩ := H
            simp only [Option.some.injEq, Prod.mk.injEq] at H
            obtain ⟨rfl, rfl⟩ := H
            go_wp2_with (first | ((with_reducible refine gate_callee (f := 99) rfl ?_); refine goesL_ (some 68) rfl rfl Tryd.func99 (by kernel_rfl) rfl #[.bool (a1 == a2)] rfl qm ?_; (with_reducible refine (expr_truth.calls (a1 == a2) t113 _ A23.out).mono ?_); rintro e w' ⟨rfl, ⟨nd, rfl⟩⟩; refine ⟨_, rfl, ?_⟩))
            go_ret2
            exact ⟨by first | rfl | (simp; done) | (simp [*]; done), by repeat (first | exact Drawn0.refl _ | apply Drawn0.step)⟩
           ·rw [if_neg c22] at H
            obtain ⟨c22b0, c22b1⟩ := qd c22
            by_cases c24 : a0 = 14
            ·rw [if_pos c24] at H
             obtain ⟨c24b0, c24b1⟩ := qe c24
             clear c24
             replace H := qi H
             obtain ⟨t114, A25, H⟩ := H
             simp only [Option.some.injEq, Prod.mk.injEq] at H
             obtain ⟨rfl, rfl⟩ := H
             go_wp2_with (first | ((with_reducible refine gate_callee (f := 99) rfl ?_); refine goesL_ (some 74) rfl rfl Tryd.func99 (by kernel_rfl) rfl #[.bool (a1 != a2)] rfl qm ?_; (with_reducible refine (expr_truth.calls (a1 != a2) t114 _ A25.out).mono ?_); rintro e w' ⟨rfl, ⟨nd, rfl⟩⟩; refine ⟨_, rfl, ?_⟩))
             go_ret2
             exact ⟨by first | rfl | (simp; done) | (simp [*]; done), by repeat (first | exact Drawn0.refl _ | apply Drawn0.step)⟩
            ·rw [if_neg c24] at H
             obtain ⟨c24b0, c24b1⟩ := qd c24
             by_cases c26 : a0 = 15
             ·rw [if_pos c26] at H
              obtain ⟨c26b0, c26b1⟩ := qe c26
              clear c26
              by_cases c27 : a1 = 0
              ·rw [if_pos c27] at H
               obtain ⟨c27b0, c27b1⟩ := qe c27
               clear c27
               replace H := qi H
               obtain ⟨t115, A28, H⟩ := H
               simp only [Option.some.injEq, Prod.mk.injEq] at H
               obtain ⟨rfl, rfl⟩ := H
               go_wp2_with (first | ((with_reducible refine gate_callee (f := 99) rfl ?_); refine goesL_ (some 83) rfl rfl Tryd.func99 (by kernel_rfl) rfl #[.bool false] rfl qm ?_; (with_reducible refine (expr_truth.calls false t115 _ A28.out).mono ?_); rintro e w' ⟨rfl, ⟨nd, rfl⟩⟩; refine ⟨_, rfl, ?_⟩))
               go_ret2
               exact ⟨by first | rfl | (simp; done) | (simp [*]; done), by repeat (first | exact Drawn0.refl _ | apply Drawn0.step)⟩
              ·rw [if_neg c27] at H
               obtain ⟨c27b0, c27b1⟩ := qd c27
               replace H := qi H
               obtain ⟨t116, A29, H⟩ := H
               simp only [Option.some.injEq, Prod.mk.injEq] at H
               obtain ⟨rfl, rfl⟩ := H
               go_wp2_with (first | ((with_reducible refine gate_callee (f := 99) rfl ?_); refine goesL_ (some 83) rfl rfl Tryd.func99 (by kernel_rfl) rfl #[.bool (a2 != 0)] rfl qm ?_; (with_reducible refine (expr_truth.calls (a2 != 0) t116 _ A29.out).mono ?_); rintro e w' ⟨rfl, ⟨nd, rfl⟩⟩; refine ⟨_, rfl, ?_⟩))
               go_ret2
               exact ⟨by first | rfl | (simp; done) | (simp [*]; done), by repeat (first | exact Drawn0.refl _ | apply Drawn0.step)⟩
             ·rw [if_neg c26] at H
              obtain ⟨c26b0, c26b1⟩ := qd c26
              by_cases c30 : a1 = 0
              ·rw [if_pos c30] at H
               obtain ⟨c30b0, c30b1⟩ := qe c30
               clear c30
               replace H := qi H
               obtain ⟨t117, A31, H⟩ := H
               simp only [Option.some.injEq, Prod.mk.injEq] at H
               obtain ⟨rfl, rfl⟩ := H
               go_wp2_with (first | ((with_reducible refine gate_callee (f := 99) rfl ?_); refine goesL_ (some 90) rfl rfl Tryd.func99 (by kernel_rfl) rfl #[.bool (a2 != 0)] rfl qm ?_; (with_reducible refine (expr_truth.calls (a2 != 0) t117 _ A31.out).mono ?_); rintro e w' ⟨rfl, ⟨nd, rfl⟩⟩; refine ⟨_, rfl, ?_⟩))
               go_ret2
               exact ⟨by first | rfl | (simp; done) | (simp [*]; done), by repeat (first | exact Drawn0.refl _ | apply Drawn0.step)⟩
              ·rw [if_neg c30] at H
               obtain ⟨c30b0, c30b1⟩ := qd c30
               replace H := qi H
               obtain ⟨t118, A32, H⟩ := H
               simp only [Option.some.injEq, Prod.mk.injEq] at H
               obtain ⟨rfl, rfl⟩ := H
               go_wp2_with (first | ((with_reducible refine gate_callee (f := 99) rfl ?_); refine goesL_ (some 90) rfl rfl Tryd.func99 (by kernel_rfl) rfl #[.bool true] rfl qm ?_; (with_reducible refine (expr_truth.calls true t118 _ A32.out).mono ?_); rintro e w' ⟨rfl, ⟨nd, rfl⟩⟩; refine ⟨_, rfl, ?_⟩))
               go_ret2
               exact ⟨by first | rfl | (simp; done) | (simp [*]; done), by repeat (first | exact Drawn0.refl _ | apply Drawn0.step)⟩
def expr_reckon.f : Nat → Int → Int → ByteArray → List (S34) → List (S69) → Option (Int × Int)
  | 0, _, _, _, _, _ => none
  | k + 1, a0_0, a0_1, a0_2, l0_3, l1 => if a0_0 = 0 then (some (a0_1, 0)) else (if a0_0 = 1 then ((expr_cell.f l1 a0_2).bind fun bt102 => (if bt102.2 = true then (some (bt102.1, 0)) else (some (0, 21)))) else (if 0 < (l0_3.length : Int) then ((expr_reckon.f k ((rd_T34 l0_3 0).f0) ((rd_T34 l0_3 0).f1) ((rd_T34 l0_3 0).f2) ((rd_T34 l0_3 0).f3) l1).bind fun bt105 => (if bt105.2 = 0 then (if a0_0 = 2 then ((expr_minus.f 0 bt105.1).bind fun bt107 => (some (bt107.1, bt107.2))) else (if a0_0 = 3 then ((expr_truth.f (bt105.1 == 0)).bind fun t109 => (some (t109, 0))) else (if 1 < (l0_3.length : Int) then ((expr_reckon.f k ((rd_T34 l0_3 1).f0) ((rd_T34 l0_3 1).f1) ((rd_T34 l0_3 1).f2) ((rd_T34 l0_3 1).f3) l1).bind fun bt111 => (if bt111.2 = 0 then ((expr_two.f k a0_0 bt105.1 bt111.1).bind fun bt113 => (some (bt113.1, bt113.2))) else (some (0, bt111.2)))) else (none)))) else (some (0, bt105.2)))) else (none)))
theorem expr_reckon.mono_l : ∀ k, (∀ y0 y1 y2 y3 y4, LeO (expr_reckon.f k y0 y1 y2 y3 y4) (expr_reckon.f (k + 1) y0 y1 y2 y3 y4))
  | 0 => fun _ _ _ _ _ r h => by simp [expr_reckon.f] at h
  | k + 1 => by
    have ih0 := expr_reckon.mono_l k
    · intro y0 y1 y2 y3 y4
      unfold expr_reckon.f
      repeat' first
      | (with_reducible exact ih0 _ _ _ _ _)
      | (with_reducible exact expr_two.mono _ _ _ _)
      | (with_reducible exact LeO.refl _)
      | (with_reducible exact LeO.none _)
      | (with_reducible refine LeO.ite ?_ ?_)
      | (with_reducible refine LeO.bind ?_ (fun _ => ?_))
      | exact ih0 _ _ _ _ _
      | exact expr_two.mono _ _ _ _
      | exact LeO.none _
      | refine LeO.ite ?_ ?_
      | refine LeO.bind ?_ (fun _ => ?_)
theorem expr_reckon.mono : ∀ a0 a1 a2 a3 a4 k, LeO (expr_reckon.f k a0 a1 a2 a3 a4) (expr_reckon.f (k + 1) a0 a1 a2 a3 a4) := by
  intro a0 a1 a2 a3 a4 k
  have ih0 := expr_reckon.mono_l k
  exact ih0 a0 a1 a2 a3 a4
set_option maxHeartbeats 8000000 in
set_option maxRecDepth 100000 in
theorem expr_reckon.calls (k : Nat) : ∀ (a0_0 : Int) (a0_1 : Int) (a0_2 : ByteArray) (A0_3 : Option Addr) (c0_3 : Nat) (l0_3 : List (S34)) (A1 : Option Addr) (c1 : Nat) (l1 : List (S69)) (r1 : Int) (r2 : Int) (w : World) (hr0_3 : Kd.C k34 w A0_3 l0_3.length l0_3) (hc0_3 : l0_3.length ≤ c0_3) (hr1 : Kd.C k69 w A1 l1.length l1) (hc1 : l1.length ≤ c1) (h : expr_reckon.f k a0_0 a0_1 a0_2 l0_3 l1 = some (r1, r2)),
  Calls Tryd.prog 64 #[.agg #[.int .i64 a0_0, .int .i64 a0_1, .string a0_2, .slice A0_3 l0_3.length c0_3], .slice A1 l1.length c1] w fun e w' => e = .returned (.tuple #[.int .i64 r1, .int .i64 r2]) ∧ Below w.heap.size w w' := by
 induction k using Nat.strongRecOn with
 | _ k ih =>
 intro a0_0 a0_1 a0_2 A0_3 c0_3 l0_3 A1 c1 l1 r1 r2 w hr0_3 hc0_3 hr1 hc1 h
 cases k with
 | zero => exact absurd h (by simp [expr_reckon.f])
 | succ k =>
 simp only [expr_reckon.f] at h
 have hu34 := Tryd.underlying34
 have HR0_3 := Aside0.mk hr0_3
 have HC0_3 := Aside0.mk hc0_3
 clear hr0_3 hc0_3
 have HR1 := Aside0.mk hr1
 have HC1 := Aside0.mk hc1
 clear hr1 hc1
 have HB := Aside0.mk (Below.refl w.heap.size w)
 have H : (if a0_0 = 0 then (some (a0_1, 0)) else (if a0_0 = 1 then ((expr_cell.f l1 a0_2).bind fun bt102 => (if bt102.2 = true then (some (bt102.1, 0)) else (some (0, 21)))) else (if 0 < (l0_3.length : Int) then ((expr_reckon.f k ((rd_T34 l0_3 0).f0) ((rd_T34 l0_3 0).f1) ((rd_T34 l0_3 0).f2) ((rd_T34 l0_3 0).f3) l1).bind fun bt105 => (if bt105.2 = 0 then (if a0_0 = 2 then ((expr_minus.f 0 bt105.1).bind fun bt107 => (some (bt107.1, bt107.2))) else (if a0_0 = 3 then ((expr_truth.f (bt105.1 == 0)).bind fun t109 => (some (t109, 0))) else (if 1 < (l0_3.length : Int) then ((expr_reckon.f k ((rd_T34 l0_3 1).f0) ((rd_T34 l0_3 1).f1) ((rd_T34 l0_3 1).f2) ((rd_T34 l0_3 1).f3) l1).bind fun bt111 => (if bt111.2 = 0 then ((expr_two.f k a0_0 bt105.1 bt111.1).bind fun bt113 => (some (bt113.1, bt113.2))) else (some (0, bt111.2)))) else (none)))) else (some (0, bt105.2)))) else (none)))) = some (r1, r2) := h
 clear h
 by_cases c3 : a0_0 = 0
 ·rw [if_pos c3] at H
  obtain ⟨c3b0, c3b1⟩ := qe c3
  clear c3
  simp only [Option.some.injEq, Prod.mk.injEq] at H
  obtain ⟨rfl, rfl⟩ := H
  go_enter Tryd.func64, Tryd.ntmps64
  go_wp2_with (first | ((with_reducible refine gate_dst (N := 2) rfl ?_); refine box_event ?hg (N := 2) ?hd (cs := #[.int .i64 a0_0, .int .i64 a0_1, .string a0_2, .slice A0_3 l0_3.length c0_3]) (t := 34) ?hr ?_; (case hd => rfl); (case hg => rfl); (case hr => first | (go_simp; done) | (go_simp; rfl)); intro gb101 hg w4 hbox hb; have n0_ := qs hb; have n1_ := Aside0.mk (hbox); have n2_ := Aside0.mk ((by rw [hg]; exact (below_size qb) : w.heap.size ≤ gb101)); have n3_ := Aside0.mk ((by rw [hg]; exact (below_size qb) : w.heap.size ≤ gb101)); clear HB; have HB := n0_; have BK101 := n1_; have GW101 := n2_; have GE101 := n3_; clear n0_ n1_ n2_ n3_; clear hb hbox hg; obtain ⟨_, _, _, _, _, _, _, _⟩ := q4 BK101.out))
  go_ret2
  exact qr
 ·rw [if_neg c3] at H
  obtain ⟨c3b0, c3b1⟩ := qd c3
  by_cases c6 : a0_0 = 1
  ·rw [if_pos c6] at H
   obtain ⟨c6b0, c6b1⟩ := qe c6
   clear c6
   replace H := qi H
   obtain ⟨⟨t102, t103⟩, A7, H⟩ := H
   replace H : (if t103 = true then (some (t102, 0)) else (some (0, 21))) = some (r1, r2) := H
   by_cases c8 : t103 = true
   ·subst c8
    rw [if_pos rfl] at H
    simp only [Option.some.injEq, Prod.mk.injEq] at H
    obtain ⟨rfl, rfl⟩ := H
    go_enter Tryd.func64, Tryd.ntmps64
    go_wp2_with (first | ((with_reducible refine gate_dst (N := 2) rfl ?_); refine box_event ?hg (N := 2) ?hd (cs := #[.int .i64 a0_0, .int .i64 a0_1, .string a0_2, .slice A0_3 l0_3.length c0_3]) (t := 34) ?hr ?_; (case hd => rfl); (case hg => rfl); (case hr => first | (go_simp; done) | (go_simp; rfl)); intro gb101 hg w9 hbox hb; have n0_ := qs hb; have n1_ := Aside0.mk (hbox); have n2_ := Aside0.mk ((by rw [hg]; exact (below_size qb) : w.heap.size ≤ gb101)); have n3_ := Aside0.mk ((by rw [hg]; exact (below_size qb) : w.heap.size ≤ gb101)); clear HB; have HB := n0_; have BK101 := n1_; have GW101 := n2_; have GE101 := n3_; clear n0_ n1_ n2_ n3_; clear hb hbox hg; obtain ⟨_, _, _, _, _, _, _, _⟩ := q4 BK101.out) | ((with_reducible refine gate_callee (f := 97) rfl ?_); refine goesL_ (some 23) rfl rfl Tryd.func97 (by kernel_rfl) rfl #[.slice A1 l1.length c1, .string a0_2] rfl qm ?_; (with_reducible refine (expr_cell.calls _ _ l1 a0_2 t102 true _ ?side1 ?side2 A7.out).mono ?_); (case side1 => exact qC HR1.out); (case side2 => exact HC1.out); rintro e w11 ⟨rfl, hb⟩; refine ⟨_, rfl, ?_⟩; have n0_ := qn (g := gb101) hb; have n1_ := qs hb; clear BK101; clear HB; have BK101 := n0_; have HB := n1_; clear n0_ n1_; (try clear hb)))
    go_ret2
    exact qr
   ·replace c8 := Bool.eq_false_iff.mpr c8
    subst c8
    rw [if_neg qf] at H
    simp only [Option.some.injEq, Prod.mk.injEq] at H
    obtain ⟨rfl, rfl⟩ := H
    go_enter Tryd.func64, Tryd.ntmps64
    go_wp2_with (first | ((with_reducible refine gate_dst (N := 2) rfl ?_); refine box_event ?hg (N := 2) ?hd (cs := #[.int .i64 a0_0, .int .i64 a0_1, .string a0_2, .slice A0_3 l0_3.length c0_3]) (t := 34) ?hr ?_; (case hd => rfl); (case hg => rfl); (case hr => first | (go_simp; done) | (go_simp; rfl)); intro gb101 hg w12 hbox hb; have n0_ := qs hb; have n1_ := Aside0.mk (hbox); have n2_ := Aside0.mk ((by rw [hg]; exact (below_size qb) : w.heap.size ≤ gb101)); have n3_ := Aside0.mk ((by rw [hg]; exact (below_size qb) : w.heap.size ≤ gb101)); clear HB; have HB := n0_; have BK101 := n1_; have GW101 := n2_; have GE101 := n3_; clear n0_ n1_ n2_ n3_; clear hb hbox hg; obtain ⟨_, _, _, _, _, _, _, _⟩ := q4 BK101.out) | ((with_reducible refine gate_callee (f := 97) rfl ?_); refine goesL_ (some 23) rfl rfl Tryd.func97 (by kernel_rfl) rfl #[.slice A1 l1.length c1, .string a0_2] rfl qm ?_; (with_reducible refine (expr_cell.calls _ _ l1 a0_2 t102 false _ ?side1 ?side2 A7.out).mono ?_); (case side1 => exact qC HR1.out); (case side2 => exact HC1.out); rintro e w14 ⟨rfl, hb⟩; refine ⟨_, rfl, ?_⟩; have n0_ := qn (g := gb101) hb; have n1_ := qs hb; clear BK101; clear HB; have BK101 := n0_; have HB := n1_; clear n0_ n1_; (try clear hb)))
    go_ret2
    exact qr
  ·rw [if_neg c6] at H
   obtain ⟨c6b0, c6b1⟩ := qd c6
   by_cases c15 : 0 < (l0_3.length : Int)
   ·rw [if_pos c15] at H
    have c15b0 : decide (0 < (l0_3.length : Int)) = true := decide_eq_true c15
    have c15b1 : decide (0 < l0_3.length) = true := decide_eq_true (by omega)
    clear c15
    replace H := qi H
    obtain ⟨⟨t105, t106⟩, A16, H⟩ := H
    replace H : (if t106 = 0 then (if a0_0 = 2 then ((expr_minus.f 0 t105).bind fun bt107 => (some (bt107.1, bt107.2))) else (if a0_0 = 3 then ((expr_truth.f (t105 == 0)).bind fun t109 => (some (t109, 0))) else (if 1 < (l0_3.length : Int) then ((expr_reckon.f k ((rd_T34 l0_3 1).f0) ((rd_T34 l0_3 1).f1) ((rd_T34 l0_3 1).f2) ((rd_T34 l0_3 1).f3) l1).bind fun bt111 => (if bt111.2 = 0 then ((expr_two.f k a0_0 t105 bt111.1).bind fun bt113 => (some (bt113.1, bt113.2))) else (some (0, bt111.2)))) else (none)))) else (some (0, t106))) = some (r1, r2) := H
    by_cases c17 : t106 = 0
    ·rw [if_pos c17] at H
     obtain ⟨c17b0, c17b1⟩ := qe c17
     clear c17
     by_cases c18 : a0_0 = 2
     ·rw [if_pos c18] at H
      obtain ⟨c18b0, c18b1⟩ := qe c18
      clear c18
      replace H := qi H
      obtain ⟨⟨t107, t108⟩, A19, H⟩ := H
      replace H : (some (t107, t108)) = some (r1, r2) := H
      simp only [Option.some.injEq, Prod.mk.injEq] at H
      obtain ⟨rfl, rfl⟩ := H
      go_enter Tryd.func64, Tryd.ntmps64
      go_wp2_with (first | ((with_reducible refine gate_dst (N := 2) rfl ?_); refine box_event ?hg (N := 2) ?hd (cs := #[.int .i64 a0_0, .int .i64 a0_1, .string a0_2, .slice A0_3 l0_3.length c0_3]) (t := 34) ?hr ?_; (case hd => rfl); (case hg => rfl); (case hr => first | (go_simp; done) | (go_simp; rfl)); intro gb101 hg w20 hbox hb; have n0_ := qs hb; have n1_ := Aside0.mk (hbox); have n2_ := Aside0.mk ((by rw [hg]; exact (below_size qb) : w.heap.size ≤ gb101)); have n3_ := Aside0.mk ((by rw [hg]; exact (below_size qb) : w.heap.size ≤ gb101)); clear HB; have HB := n0_; have BK101 := n1_; have GW101 := n2_; have GE101 := n3_; clear n0_ n1_ n2_ n3_; clear hb hbox hg; obtain ⟨_, _, _, _, _, _, _, _⟩ := q4 BK101.out; have p104 : 0 ≤ (0 : Int) := (by omega); have q104 : 0 < (l0_3.length : Int) := qa; obtain ⟨ad104, A104_3, c104_3, e104, hx104_0, hx104_1, hx104_2, hx104_3, hl104_3, hi104_3⟩ := at_T34 HR0_3.out 0 p104 q104; cases e104; have qi104 : (0 < l0_3.length) = True := eq_true (by omega); (try rw [show ((0 : Int)).toNat = 0 from rfl] at hx104_0); (try rw [show 0 * 4 = 0 from rfl] at hx104_0); (try rw [Addr.add_zero'] at hx104_0); (try rw [show ((0 : Int)).toNat = 0 from rfl] at hx104_1); (try rw [show 0 * 4 = 0 from rfl] at hx104_1); (try rw [Addr.add_zero'] at hx104_1); (try rw [show ((0 : Int)).toNat = 0 from rfl] at hx104_2); (try rw [show 0 * 4 = 0 from rfl] at hx104_2); (try rw [Addr.add_zero'] at hx104_2); (try rw [show ((0 : Int)).toNat = 0 from rfl] at hx104_3); (try rw [show 0 * 4 = 0 from rfl] at hx104_3); (try rw [Addr.add_zero'] at hx104_3); replace hx104_0 := qc HB.out hx104_0; replace hx104_1 := qc HB.out hx104_1; replace hx104_2 := qc HB.out hx104_2; replace hx104_3 := qc HB.out hx104_3; have HR104_3 := Aside0.mk hi104_3; have HC104_3 := Aside0.mk hl104_3; clear hi104_3 hl104_3; replace p104 := eq_true p104; replace q104 := eq_true q104) | ((with_reducible refine gate_callee (f := 64) rfl ?_); refine goesL_ (some 35) rfl rfl Tryd.func64 (by kernel_rfl) rfl #[.agg #[.int .i64 ((rd_T34 l0_3 0).f0), .int .i64 ((rd_T34 l0_3 0).f1), .string ((rd_T34 l0_3 0).f2), .slice A104_3 ((rd_T34 l0_3 0).f3).length c104_3], .slice A1 l1.length c1] rfl qm ?_; (with_reducible refine (ih k (by omega) ((rd_T34 l0_3 0).f0) ((rd_T34 l0_3 0).f1) ((rd_T34 l0_3 0).f2) _ _ ((rd_T34 l0_3 0).f3) _ _ l1 t105 t106 _ ?side1 ?side2 ?side3 ?side4 A16.out).mono ?_); (case side1 => exact qC HR104_3.out); (case side2 => exact HC104_3.out); (case side3 => exact qC HR1.out); (case side4 => exact HC1.out); rintro e w22 ⟨rfl, hb⟩; refine ⟨_, rfl, ?_⟩; have n0_ := qn (g := gb101) hb; have n1_ := qs hb; clear BK101; clear HB; have BK101 := n0_; have HB := n1_; clear n0_ n1_; (try clear hb); obtain ⟨_, _, _, _, _, _, _, _⟩ := q4 BK101.out) | ((with_reducible refine gate_callee (f := 98) rfl ?_); refine goesL_ (some 46) rfl rfl Tryd.func98 (by kernel_rfl) rfl #[.int .i64 0, .int .i64 t105] rfl qm ?_; (with_reducible refine (expr_minus.calls 0 t105 t107 t108 _ A19.out).mono ?_); rintro e w' ⟨rfl, ⟨nd, rfl⟩⟩; refine ⟨_, rfl, ?_⟩))
      go_ret2
      exact qr
     ·rw [if_neg c18] at H
      obtain ⟨c18b0, c18b1⟩ := qd c18
      by_cases c24 : a0_0 = 3
      ·rw [if_pos c24] at H
       obtain ⟨c24b0, c24b1⟩ := qe c24
       clear c24
       replace H := qi H
       obtain ⟨t109, A25, H⟩ := H
       simp only [Option.some.injEq, Prod.mk.injEq] at H
       obtain ⟨rfl, rfl⟩ := H
       go_enter Tryd.func64, Tryd.ntmps64
       go_wp2_with (first | ((with_reducible refine gate_dst (N := 2) rfl ?_); refine box_event ?hg (N := 2) ?hd (cs := #[.int .i64 a0_0, .int .i64 a0_1, .string a0_2, .slice A0_3 l0_3.length c0_3]) (t := 34) ?hr ?_; (case hd => rfl); (case hg => rfl); (case hr => first | (go_simp; done) | (go_simp; rfl)); intro gb101 hg w26 hbox hb; have n0_ := qs hb; have n1_ := Aside0.mk (hbox); have n2_ := Aside0.mk ((by rw [hg]; exact (below_size qb) : w.heap.size ≤ gb101)); have n3_ := Aside0.mk ((by rw [hg]; exact (below_size qb) : w.heap.size ≤ gb101)); clear HB; have HB := n0_; have BK101 := n1_; have GW101 := n2_; have GE101 := n3_; clear n0_ n1_ n2_ n3_; clear hb hbox hg; obtain ⟨_, _, _, _, _, _, _, _⟩ := q4 BK101.out; have p104 : 0 ≤ (0 : Int) := (by omega); have q104 : 0 < (l0_3.length : Int) := qa; obtain ⟨ad104, A104_3, c104_3, e104, hx104_0, hx104_1, hx104_2, hx104_3, hl104_3, hi104_3⟩ := at_T34 HR0_3.out 0 p104 q104; cases e104; have qi104 : (0 < l0_3.length) = True := eq_true (by omega); (try rw [show ((0 : Int)).toNat = 0 from rfl] at hx104_0); (try rw [show 0 * 4 = 0 from rfl] at hx104_0); (try rw [Addr.add_zero'] at hx104_0); (try rw [show ((0 : Int)).toNat = 0 from rfl] at hx104_1); (try rw [show 0 * 4 = 0 from rfl] at hx104_1); (try rw [Addr.add_zero'] at hx104_1); (try rw [show ((0 : Int)).toNat = 0 from rfl] at hx104_2); (try rw [show 0 * 4 = 0 from rfl] at hx104_2); (try rw [Addr.add_zero'] at hx104_2); (try rw [show ((0 : Int)).toNat = 0 from rfl] at hx104_3); (try rw [show 0 * 4 = 0 from rfl] at hx104_3); (try rw [Addr.add_zero'] at hx104_3); replace hx104_0 := qc HB.out hx104_0; replace hx104_1 := qc HB.out hx104_1; replace hx104_2 := qc HB.out hx104_2; replace hx104_3 := qc HB.out hx104_3; have HR104_3 := Aside0.mk hi104_3; have HC104_3 := Aside0.mk hl104_3; clear hi104_3 hl104_3; replace p104 := eq_true p104; replace q104 := eq_true q104) | ((with_reducible refine gate_callee (f := 64) rfl ?_); refine goesL_ (some 35) rfl rfl Tryd.func64 (by kernel_rfl) rfl #[.agg #[.int .i64 ((rd_T34 l0_3 0).f0), .int .i64 ((rd_T34 l0_3 0).f1), .string ((rd_T34 l0_3 0).f2), .slice A104_3 ((rd_T34 l0_3 0).f3).length c104_3], .slice A1 l1.length c1] rfl qm ?_; (with_reducible refine (ih k (by omega) ((rd_T34 l0_3 0).f0) ((rd_T34 l0_3 0).f1) ((rd_T34 l0_3 0).f2) _ _ ((rd_T34 l0_3 0).f3) _ _ l1 t105 t106 _ ?side1 ?side2 ?side3 ?side4 A16.out).mono ?_); (case side1 => exact qC HR104_3.out); (case side2 => exact HC104_3.out); (case side3 => exact qC HR1.out); (case side4 => exact HC1.out); rintro e w28 ⟨rfl, hb⟩; refine ⟨_, rfl, ?_⟩; have n0_ := qn (g := gb101) hb; have n1_ := qs hb; clear BK101; clear HB; have BK101 := n0_; have HB := n1_; clear n0_ n1_; (try clear hb); obtain ⟨_, _, _, _, _, _, _, _⟩ := q4 BK101.out) | ((with_reducible refine gate_callee (f := 99) rfl ?_); refine goesL_ (some 53) rfl rfl Tryd.func99 (by kernel_rfl) rfl #[.bool (t105 == 0)] rfl qm ?_; (with_reducible refine (expr_truth.calls (t105 == 0) t109 _ A25.out).mono ?_); rintro e w' ⟨rfl, ⟨nd, rfl⟩⟩; refine ⟨_, rfl, ?_⟩))
       go_ret2
       exact qr
      ·rw [if_neg c24] at H
       obtain ⟨c24b0, c24b1⟩ := qd c24
       by_cases c30 : 1 < (l0_3.length : Int)
       ·rw [if_pos c30] at H
        have c30b0 : decide (1 < (l0_3.length : Int)) = true := decide_eq_true c30
        have c30b1 : decide (1 < l0_3.length) = true := decide_eq_true (by omega)
        clear c30
        replace H := qi H
        obtain ⟨⟨t111, t112⟩, A31, H⟩ := H
        replace H : (if t112 = 0 then ((expr_two.f k a0_0 t105 t111).bind fun bt113 => (some (bt113.1, bt113.2))) else (some (0, t112))) = some (r1, r2) := H
        by_cases c32 : t112 = 0
        ·rw [if_pos c32] at H
         obtain ⟨c32b0, c32b1⟩ := qe c32
         clear c32
         replace H := qi H
         obtain ⟨⟨t113, t114⟩, A33, H⟩ := H
         replace H : (some (t113, t114)) = some (r1, r2) := H
         simp only [Option.some.injEq, Prod.mk.injEq] at H
         obtain ⟨rfl, rfl⟩ := H
         go_enter Tryd.func64, Tryd.ntmps64
         go_wp2_with (first | ((with_reducible refine gate_dst (N := 2) rfl ?_); refine box_event ?hg (N := 2) ?hd (cs := #[.int .i64 a0_0, .int .i64 a0_1, .string a0_2, .slice A0_3 l0_3.length c0_3]) (t := 34) ?hr ?_; (case hd => rfl); (case hg => rfl); (case hr => first | (go_simp; done) | (go_simp; rfl)); intro gb101 hg w34 hbox hb; have n0_ := qs hb; have n1_ := Aside0.mk (hbox); have n2_ := Aside0.mk ((by rw [hg]; exact (below_size qb) : w.heap.size ≤ gb101)); have n3_ := Aside0.mk ((by rw [hg]; exact (below_size qb) : w.heap.size ≤ gb101)); clear HB; have HB := n0_; have BK101 := n1_; have GW101 := n2_; have GE101 := n3_; clear n0_ n1_ n2_ n3_; clear hb hbox hg; obtain ⟨_, _, _, _, _, _, _, _⟩ := q4 BK101.out; have p104 : 0 ≤ (0 : Int) := (by omega); have q104 : 0 < (l0_3.length : Int) := qa; obtain ⟨ad104, A104_3, c104_3, e104, hx104_0, hx104_1, hx104_2, hx104_3, hl104_3, hi104_3⟩ := at_T34 HR0_3.out 0 p104 q104; cases e104; have qi104 : (0 < l0_3.length) = True := eq_true (by omega); (try rw [show ((0 : Int)).toNat = 0 from rfl] at hx104_0); (try rw [show 0 * 4 = 0 from rfl] at hx104_0); (try rw [Addr.add_zero'] at hx104_0); (try rw [show ((0 : Int)).toNat = 0 from rfl] at hx104_1); (try rw [show 0 * 4 = 0 from rfl] at hx104_1); (try rw [Addr.add_zero'] at hx104_1); (try rw [show ((0 : Int)).toNat = 0 from rfl] at hx104_2); (try rw [show 0 * 4 = 0 from rfl] at hx104_2); (try rw [Addr.add_zero'] at hx104_2); (try rw [show ((0 : Int)).toNat = 0 from rfl] at hx104_3); (try rw [show 0 * 4 = 0 from rfl] at hx104_3); (try rw [Addr.add_zero'] at hx104_3); replace hx104_0 := qc HB.out hx104_0; replace hx104_1 := qc HB.out hx104_1; replace hx104_2 := qc HB.out hx104_2; replace hx104_3 := qc HB.out hx104_3; have HR104_3 := Aside0.mk hi104_3; have HC104_3 := Aside0.mk hl104_3; clear hi104_3 hl104_3; replace p104 := eq_true p104; replace q104 := eq_true q104) | ((with_reducible refine gate_callee (f := 64) rfl ?_); refine goesL_ (some 35) rfl rfl Tryd.func64 (by kernel_rfl) rfl #[.agg #[.int .i64 ((rd_T34 l0_3 0).f0), .int .i64 ((rd_T34 l0_3 0).f1), .string ((rd_T34 l0_3 0).f2), .slice A104_3 ((rd_T34 l0_3 0).f3).length c104_3], .slice A1 l1.length c1] rfl qm ?_; (with_reducible refine (ih k (by omega) ((rd_T34 l0_3 0).f0) ((rd_T34 l0_3 0).f1) ((rd_T34 l0_3 0).f2) _ _ ((rd_T34 l0_3 0).f3) _ _ l1 t105 t106 _ ?side1 ?side2 ?side3 ?side4 A16.out).mono ?_); (case side1 => exact qC HR104_3.out); (case side2 => exact HC104_3.out); (case side3 => exact qC HR1.out); (case side4 => exact HC1.out); rintro e w36 ⟨rfl, hb⟩; refine ⟨_, rfl, ?_⟩; have n0_ := qn (g := gb101) hb; have n1_ := qs hb; clear BK101; clear HB; have BK101 := n0_; have HB := n1_; clear n0_ n1_; (try clear hb); obtain ⟨_, _, _, _, _, _, _, _⟩ := q4 BK101.out; have p110 : 0 ≤ (1 : Int) := (by omega); have q110 : 1 < (l0_3.length : Int) := qa; obtain ⟨ad110, A110_3, c110_3, e110, hx110_0, hx110_1, hx110_2, hx110_3, hl110_3, hi110_3⟩ := at_T34 HR0_3.out 1 p110 q110; obtain rfl : ad104 = ad110 := (by injection e110); (try simp only [show (1 : Int).toNat = 1 from rfl, Nat.reduceMul, Nat.reduceEqDiff, Go.Addr.add, ↓reduceIte] at hx110_0); (try simp only [show (1 : Int).toNat = 1 from rfl, Nat.reduceMul, Nat.reduceEqDiff, Go.Addr.add, ↓reduceIte] at hx110_1); (try simp only [show (1 : Int).toNat = 1 from rfl, Nat.reduceMul, Nat.reduceEqDiff, Go.Addr.add, ↓reduceIte] at hx110_2); (try simp only [show (1 : Int).toNat = 1 from rfl, Nat.reduceMul, Nat.reduceEqDiff, Go.Addr.add, ↓reduceIte] at hx110_3); have qi110 : (1 < l0_3.length) = True := eq_true (by omega); (try rw [show ((1 : Int)).toNat = 1 from rfl] at hx110_0); (try rw [show 1 * 4 = 4 from rfl] at hx110_0); (try rw [show ((1 : Int)).toNat = 1 from rfl] at hx110_1); (try rw [show 1 * 4 = 4 from rfl] at hx110_1); (try rw [show ((1 : Int)).toNat = 1 from rfl] at hx110_2); (try rw [show 1 * 4 = 4 from rfl] at hx110_2); (try rw [show ((1 : Int)).toNat = 1 from rfl] at hx110_3); (try rw [show 1 * 4 = 4 from rfl] at hx110_3); replace hx110_0 := qc HB.out hx110_0; replace hx110_1 := qc HB.out hx110_1; replace hx110_2 := qc HB.out hx110_2; replace hx110_3 := qc HB.out hx110_3; have HR110_3 := Aside0.mk hi110_3; have HC110_3 := Aside0.mk hl110_3; clear hi110_3 hl110_3; replace p110 := eq_true p110; replace q110 := eq_true q110) | ((with_reducible refine gate_callee (f := 64) rfl ?_); refine goesL_ (some 60) rfl rfl Tryd.func64 (by kernel_rfl) rfl #[.agg #[.int .i64 ((rd_T34 l0_3 1).f0), .int .i64 ((rd_T34 l0_3 1).f1), .string ((rd_T34 l0_3 1).f2), .slice A110_3 ((rd_T34 l0_3 1).f3).length c110_3], .slice A1 l1.length c1] rfl qm ?_; (with_reducible refine (ih k (by omega) ((rd_T34 l0_3 1).f0) ((rd_T34 l0_3 1).f1) ((rd_T34 l0_3 1).f2) _ _ ((rd_T34 l0_3 1).f3) _ _ l1 t111 t112 _ ?side1 ?side2 ?side3 ?side4 A31.out).mono ?_); (case side1 => exact qC HR110_3.out); (case side2 => exact HC110_3.out); (case side3 => exact qC HR1.out); (case side4 => exact HC1.out); rintro e w38 ⟨rfl, hb⟩; refine ⟨_, rfl, ?_⟩; have n0_ := qn (g := gb101) hb; have n1_ := qs hb; clear BK101; clear HB; have BK101 := n0_; have HB := n1_; clear n0_ n1_; (try clear hb); obtain ⟨_, _, _, _, _, _, _, _⟩ := q4 BK101.out) | ((with_reducible refine gate_callee (f := 100) rfl ?_); refine goesL_ (some 70) rfl rfl Tryd.func100 (by kernel_rfl) rfl #[.int .i64 a0_0, .int .i64 t105, .int .i64 t111] rfl qm ?_; (with_reducible refine (expr_two.calls k a0_0 t105 t111 t113 t114 _ A33.out).mono ?_); rintro e w' ⟨rfl, ⟨nd, rfl⟩⟩; refine ⟨_, rfl, ?_⟩))
         go_ret2
         exact qr
        ·rw [if_neg c32] at H
         obtain ⟨c32b0, c32b1⟩ := qd c32
         simp only [Option.some.injEq, Prod.mk.injEq] at H
         obtain ⟨rfl, rfl⟩ := H
         go_enter Tryd.func64, Tryd.ntmps64
         go_wp2_with (first | ((with_reducible refine gate_dst (N := 2) rfl ?_); refine box_event ?hg (N := 2) ?hd (cs := #[.int .i64 a0_0, .int .i64 a0_1, .string a0_2, .slice A0_3 l0_3.length c0_3]) (t := 34) ?hr ?_; (case hd => rfl); (case hg => rfl); (case hr => first | (go_simp; done) | (go_simp; rfl)); intro gb101 hg w40 hbox hb; have n0_ := qs hb; have n1_ := Aside0.mk (hbox); have n2_ := Aside0.mk ((by rw [hg]; exact (below_size qb) : w.heap.size ≤ gb101)); have n3_ := Aside0.mk ((by rw [hg]; exact (below_size qb) : w.heap.size ≤ gb101)); clear HB; have HB := n0_; have BK101 := n1_; have GW101 := n2_; have GE101 := n3_; clear n0_ n1_ n2_ n3_; clear hb hbox hg; obtain ⟨_, _, _, _, _, _, _, _⟩ := q4 BK101.out; have p104 : 0 ≤ (0 : Int) := (by omega); have q104 : 0 < (l0_3.length : Int) := qa; obtain ⟨ad104, A104_3, c104_3, e104, hx104_0, hx104_1, hx104_2, hx104_3, hl104_3, hi104_3⟩ := at_T34 HR0_3.out 0 p104 q104; cases e104; have qi104 : (0 < l0_3.length) = True := eq_true (by omega); (try rw [show ((0 : Int)).toNat = 0 from rfl] at hx104_0); (try rw [show 0 * 4 = 0 from rfl] at hx104_0); (try rw [Addr.add_zero'] at hx104_0); (try rw [show ((0 : Int)).toNat = 0 from rfl] at hx104_1); (try rw [show 0 * 4 = 0 from rfl] at hx104_1); (try rw [Addr.add_zero'] at hx104_1); (try rw [show ((0 : Int)).toNat = 0 from rfl] at hx104_2); (try rw [show 0 * 4 = 0 from rfl] at hx104_2); (try rw [Addr.add_zero'] at hx104_2); (try rw [show ((0 : Int)).toNat = 0 from rfl] at hx104_3); (try rw [show 0 * 4 = 0 from rfl] at hx104_3); (try rw [Addr.add_zero'] at hx104_3); replace hx104_0 := qc HB.out hx104_0; replace hx104_1 := qc HB.out hx104_1; replace hx104_2 := qc HB.out hx104_2; replace hx104_3 := qc HB.out hx104_3; have HR104_3 := Aside0.mk hi104_3; have HC104_3 := Aside0.mk hl104_3; clear hi104_3 hl104_3; replace p104 := eq_true p104; replace q104 := eq_true q104) | ((with_reducible refine gate_callee (f := 64) rfl ?_); refine goesL_ (some 35) rfl rfl Tryd.func64 (by kernel_rfl) rfl #[.agg #[.int .i64 ((rd_T34 l0_3 0).f0), .int .i64 ((rd_T34 l0_3 0).f1), .string ((rd_T34 l0_3 0).f2), .slice A104_3 ((rd_T34 l0_3 0).f3).length c104_3], .slice A1 l1.length c1] rfl qm ?_; (with_reducible refine (ih k (by omega) ((rd_T34 l0_3 0).f0) ((rd_T34 l0_3 0).f1) ((rd_T34 l0_3 0).f2) _ _ ((rd_T34 l0_3 0).f3) _ _ l1 t105 t106 _ ?side1 ?side2 ?side3 ?side4 A16.out).mono ?_); (case side1 => exact qC HR104_3.out); (case side2 => exact HC104_3.out); (case side3 => exact qC HR1.out); (case side4 => exact HC1.out); rintro e w42 ⟨rfl, hb⟩; refine ⟨_, rfl, ?_⟩; have n0_ := qn (g := gb101) hb; have n1_ := qs hb; clear BK101; clear HB; have BK101 := n0_; have HB := n1_; clear n0_ n1_; (try clear hb); obtain ⟨_, _, _, _, _, _, _, _⟩ := q4 BK101.out; have p110 : 0 ≤ (1 : Int) := (by omega); have q110 : 1 < (l0_3.length : Int) := qa; obtain ⟨ad110, A110_3, c110_3, e110, hx110_0, hx110_1, hx110_2, hx110_3, hl110_3, hi110_3⟩ := at_T34 HR0_3.out 1 p110 q110; obtain rfl : ad104 = ad110 := (by injection e110); (try simp only [show (1 : Int).toNat = 1 from rfl, Nat.reduceMul, Nat.reduceEqDiff, Go.Addr.add, ↓reduceIte] at hx110_0); (try simp only [show (1 : Int).toNat = 1 from rfl, Nat.reduceMul, Nat.reduceEqDiff, Go.Addr.add, ↓reduceIte] at hx110_1); (try simp only [show (1 : Int).toNat = 1 from rfl, Nat.reduceMul, Nat.reduceEqDiff, Go.Addr.add, ↓reduceIte] at hx110_2); (try simp only [show (1 : Int).toNat = 1 from rfl, Nat.reduceMul, Nat.reduceEqDiff, Go.Addr.add, ↓reduceIte] at hx110_3); have qi110 : (1 < l0_3.length) = True := eq_true (by omega); (try rw [show ((1 : Int)).toNat = 1 from rfl] at hx110_0); (try rw [show 1 * 4 = 4 from rfl] at hx110_0); (try rw [show ((1 : Int)).toNat = 1 from rfl] at hx110_1); (try rw [show 1 * 4 = 4 from rfl] at hx110_1); (try rw [show ((1 : Int)).toNat = 1 from rfl] at hx110_2); (try rw [show 1 * 4 = 4 from rfl] at hx110_2); (try rw [show ((1 : Int)).toNat = 1 from rfl] at hx110_3); (try rw [show 1 * 4 = 4 from rfl] at hx110_3); replace hx110_0 := qc HB.out hx110_0; replace hx110_1 := qc HB.out hx110_1; replace hx110_2 := qc HB.out hx110_2; replace hx110_3 := qc HB.out hx110_3; have HR110_3 := Aside0.mk hi110_3; have HC110_3 := Aside0.mk hl110_3; clear hi110_3 hl110_3; replace p110 := eq_true p110; replace q110 := eq_true q110) | ((with_reducible refine gate_callee (f := 64) rfl ?_); refine goesL_ (some 60) rfl rfl Tryd.func64 (by kernel_rfl) rfl #[.agg #[.int .i64 ((rd_T34 l0_3 1).f0), .int .i64 ((rd_T34 l0_3 1).f1), .string ((rd_T34 l0_3 1).f2), .slice A110_3 ((rd_T34 l0_3 1).f3).length c110_3], .slice A1 l1.length c1] rfl qm ?_; (with_reducible refine (ih k (by omega) ((rd_T34 l0_3 1).f0) ((rd_T34 l0_3 1).f1) ((rd_T34 l0_3 1).f2) _ _ ((rd_T34 l0_3 1).f3) _ _ l1 t111 t112 _ ?side1 ?side2 ?side3 ?side4 A31.out).mono ?_); (case side1 => exact qC HR110_3.out); (case side2 => exact HC110_3.out); (case side3 => exact qC HR1.out); (case side4 => exact HC1.out); rintro e w44 ⟨rfl, hb⟩; refine ⟨_, rfl, ?_⟩; have n0_ := qn (g := gb101) hb; have n1_ := qs hb; clear BK101; clear HB; have BK101 := n0_; have HB := n1_; clear n0_ n1_; (try clear hb)))
         go_ret2
         exact qr
       ·rw [if_neg c30] at H
        exact absurd H (by simp)
    ·rw [if_neg c17] at H
     obtain ⟨c17b0, c17b1⟩ := qd c17
     simp only [Option.some.injEq, Prod.mk.injEq] at H
     obtain ⟨rfl, rfl⟩ := H
     go_enter Tryd.func64, Tryd.ntmps64
     go_wp2_with (first | ((with_reducible refine gate_dst (N := 2) rfl ?_); refine box_event ?hg (N := 2) ?hd (cs := #[.int .i64 a0_0, .int .i64 a0_1, .string a0_2, .slice A0_3 l0_3.length c0_3]) (t := 34) ?hr ?_; (case hd => rfl); (case hg => rfl); (case hr => first | (go_simp; done) | (go_simp; rfl)); intro gb101 hg w45 hbox hb; have n0_ := qs hb; have n1_ := Aside0.mk (hbox); have n2_ := Aside0.mk ((by rw [hg]; exact (below_size qb) : w.heap.size ≤ gb101)); have n3_ := Aside0.mk ((by rw [hg]; exact (below_size qb) : w.heap.size ≤ gb101)); clear HB; have HB := n0_; have BK101 := n1_; have GW101 := n2_; have GE101 := n3_; clear n0_ n1_ n2_ n3_; clear hb hbox hg; obtain ⟨_, _, _, _, _, _, _, _⟩ := q4 BK101.out; have p104 : 0 ≤ (0 : Int) := (by omega); have q104 : 0 < (l0_3.length : Int) := qa; obtain ⟨ad104, A104_3, c104_3, e104, hx104_0, hx104_1, hx104_2, hx104_3, hl104_3, hi104_3⟩ := at_T34 HR0_3.out 0 p104 q104; cases e104; have qi104 : (0 < l0_3.length) = True := eq_true (by omega); (try rw [show ((0 : Int)).toNat = 0 from rfl] at hx104_0); (try rw [show 0 * 4 = 0 from rfl] at hx104_0); (try rw [Addr.add_zero'] at hx104_0); (try rw [show ((0 : Int)).toNat = 0 from rfl] at hx104_1); (try rw [show 0 * 4 = 0 from rfl] at hx104_1); (try rw [Addr.add_zero'] at hx104_1); (try rw [show ((0 : Int)).toNat = 0 from rfl] at hx104_2); (try rw [show 0 * 4 = 0 from rfl] at hx104_2); (try rw [Addr.add_zero'] at hx104_2); (try rw [show ((0 : Int)).toNat = 0 from rfl] at hx104_3); (try rw [show 0 * 4 = 0 from rfl] at hx104_3); (try rw [Addr.add_zero'] at hx104_3); replace hx104_0 := qc HB.out hx104_0; replace hx104_1 := qc HB.out hx104_1; replace hx104_2 := qc HB.out hx104_2; replace hx104_3 := qc HB.out hx104_3; have HR104_3 := Aside0.mk hi104_3; have HC104_3 := Aside0.mk hl104_3; clear hi104_3 hl104_3; replace p104 := eq_true p104; replace q104 := eq_true q104) | ((with_reducible refine gate_callee (f := 64) rfl ?_); refine goesL_ (some 35) rfl rfl Tryd.func64 (by kernel_rfl) rfl #[.agg #[.int .i64 ((rd_T34 l0_3 0).f0), .int .i64 ((rd_T34 l0_3 0).f1), .string ((rd_T34 l0_3 0).f2), .slice A104_3 ((rd_T34 l0_3 0).f3).length c104_3], .slice A1 l1.length c1] rfl qm ?_; (with_reducible refine (ih k (by omega) ((rd_T34 l0_3 0).f0) ((rd_T34 l0_3 0).f1) ((rd_T34 l0_3 0).f2) _ _ ((rd_T34 l0_3 0).f3) _ _ l1 t105 t106 _ ?side1 ?side2 ?side3 ?side4 A16.out).mono ?_); (case side1 => exact qC HR104_3.out); (case side2 => exact HC104_3.out); (case side3 => exact qC HR1.out); (case side4 => exact HC1.out); rintro e w47 ⟨rfl, hb⟩; refine ⟨_, rfl, ?_⟩; have n0_ := qn (g := gb101) hb; have n1_ := qs hb; clear BK101; clear HB; have BK101 := n0_; have HB := n1_; clear n0_ n1_; (try clear hb)))
     go_ret2
     exact qr
   ·rw [if_neg c15] at H
    exact absurd H (by simp)
def expr_Eval.f (k : Nat) (a0_0 : Int) (a0_1 : Int) (a0_2 : ByteArray) (l0_3 : List (S34)) (l1 : List (S69)) : Option (Int × Int) := (expr_May.f k a0_0 a0_1 a0_2 l0_3).bind fun t102 => (if t102 = true then ((expr_reckon.f k a0_0 a0_1 a0_2 l0_3 l1).bind fun bt103 => (some (bt103.1, bt103.2))) else (some (0, 1)))
theorem expr_Eval.mono : ∀ a0 a1 a2 a3 a4 k, LeO (expr_Eval.f k a0 a1 a2 a3 a4) (expr_Eval.f (k + 1) a0 a1 a2 a3 a4) := by
  intro a0 a1 a2 a3 a4 k
  unfold expr_Eval.f
  repeat' first
      | (with_reducible exact expr_May.mono _ _ _ _ _)
      | (with_reducible exact expr_reckon.mono _ _ _ _ _ _)
      | (with_reducible exact LeO.refl _)
      | (with_reducible exact LeO.none _)
      | (with_reducible refine LeO.ite ?_ ?_)
      | (with_reducible refine LeO.bind ?_ (fun _ => ?_))
      | exact expr_May.mono _ _ _ _ _
      | exact expr_reckon.mono _ _ _ _ _ _
      | exact LeO.none _
      | refine LeO.ite ?_ ?_
      | refine LeO.bind ?_ (fun _ => ?_)
set_option maxHeartbeats 8000000 in
set_option maxRecDepth 100000 in
theorem expr_Eval.calls (k : Nat) (a0_0 : Int) (a0_1 : Int) (a0_2 : ByteArray) (A0_3 : Option Addr) (c0_3 : Nat) (l0_3 : List (S34)) (A1 : Option Addr) (c1 : Nat) (l1 : List (S69)) (r1 : Int) (r2 : Int) (w : World) (hr0_3 : Kd.C k34 w A0_3 l0_3.length l0_3) (hc0_3 : l0_3.length ≤ c0_3) (hr1 : Kd.C k69 w A1 l1.length l1) (hc1 : l1.length ≤ c1) (h : expr_Eval.f k a0_0 a0_1 a0_2 l0_3 l1 = some (r1, r2)) (hT : UT w) :
  Calls Tryd.prog 30 #[.agg #[.int .i64 a0_0, .int .i64 a0_1, .string a0_2, .slice A0_3 l0_3.length c0_3], .slice A1 l1.length c1] w fun e w' => e = .returned (.tuple #[.int .i64 r1, .int .i64 r2]) ∧ Below w.heap.size w w' := by
 have HT0 := Aside0.mk hT
 clear hT
 have hu34 := Tryd.underlying34
 have HR0_3 := Aside0.mk hr0_3
 have HC0_3 := Aside0.mk hc0_3
 clear hr0_3 hc0_3
 have HR1 := Aside0.mk hr1
 have HC1 := Aside0.mk hc1
 clear hr1 hc1
 have HB := Aside0.mk (Below.refl w.heap.size w)
 have H : ((expr_May.f k a0_0 a0_1 a0_2 l0_3).bind fun t102 => (if t102 = true then ((expr_reckon.f k a0_0 a0_1 a0_2 l0_3 l1).bind fun bt103 => (some (bt103.1, bt103.2))) else (some (0, 1)))) = some (r1, r2) := h
 clear h
 replace H := qi H
 obtain ⟨t102, A3, H⟩ := H
 by_cases c4 : t102 = true
 ·subst c4
  rw [if_pos rfl] at H
  replace H := qi H
  obtain ⟨⟨t103, t104⟩, A5, H⟩ := H
  replace H : (some (t103, t104)) = some (r1, r2) := H
  simp only [Option.some.injEq, Prod.mk.injEq] at H
  obtain ⟨rfl, rfl⟩ := H
  go_enter Tryd.func30, Tryd.ntmps30
  go_wp2_with (first | ((with_reducible refine gate_dst (N := 2) rfl ?_); refine box_event ?hg (N := 2) ?hd (cs := #[.int .i64 a0_0, .int .i64 a0_1, .string a0_2, .slice A0_3 l0_3.length c0_3]) (t := 34) ?hr ?_; (case hd => rfl); (case hg => rfl); (case hr => first | (go_simp; done) | (go_simp; rfl)); intro gb101 hg w6 hbox hb; have n0_ := qs hb; have n1_ := Aside0.mk (hbox); have n2_ := Aside0.mk ((by rw [hg]; exact (below_size qb) : w.heap.size ≤ gb101)); have n3_ := Aside0.mk ((by rw [hg]; exact (below_size qb) : w.heap.size ≤ gb101)); clear HB; have HB := n0_; have BK101 := n1_; have GW101 := n2_; have GE101 := n3_; clear n0_ n1_ n2_ n3_; clear hb hbox hg; obtain ⟨_, _, _, _, _, _, _, _⟩ := q4 BK101.out) | ((with_reducible refine gate_callee (f := 29) rfl ?_); refine goesL_ (some 7) rfl rfl Tryd.func29 (by kernel_rfl) rfl #[.agg #[.int .i64 a0_0, .int .i64 a0_1, .string a0_2, .slice A0_3 l0_3.length c0_3]] rfl qm ?_; (with_reducible refine (expr_May.calls k a0_0 a0_1 a0_2 _ _ l0_3 true _ ?side1 ?side2 A3.out (by first | exact HT0.out | exact UT.below HT0.out qb)).mono ?_); (case side1 => exact qC HR0_3.out); (case side2 => exact HC0_3.out); rintro e w8 ⟨rfl, hb⟩; refine ⟨_, rfl, ?_⟩; have n0_ := qn (g := gb101) hb; have n1_ := qs hb; clear BK101; clear HB; have BK101 := n0_; have HB := n1_; clear n0_ n1_; (try clear hb); obtain ⟨_, _, _, _, _, _, _, _⟩ := q4 BK101.out) | ((with_reducible refine gate_callee (f := 64) rfl ?_); refine goesL_ (some 11) rfl rfl Tryd.func64 (by kernel_rfl) rfl #[.agg #[.int .i64 a0_0, .int .i64 a0_1, .string a0_2, .slice A0_3 l0_3.length c0_3], .slice A1 l1.length c1] rfl qm ?_; (with_reducible refine (expr_reckon.calls k a0_0 a0_1 a0_2 _ _ l0_3 _ _ l1 t103 t104 _ ?side1 ?side2 ?side3 ?side4 A5.out).mono ?_); (case side1 => exact qC HR0_3.out); (case side2 => exact HC0_3.out); (case side3 => exact qC HR1.out); (case side4 => exact HC1.out); rintro e w10 ⟨rfl, hb⟩; refine ⟨_, rfl, ?_⟩; have n0_ := qn (g := gb101) hb; have n1_ := qs hb; clear BK101; clear HB; have BK101 := n0_; have HB := n1_; clear n0_ n1_; (try clear hb)))
  go_ret2
  exact qr
 ·replace c4 := Bool.eq_false_iff.mpr c4
  subst c4
  rw [if_neg qf] at H
  simp only [Option.some.injEq, Prod.mk.injEq] at H
  obtain ⟨rfl, rfl⟩ := H
  go_enter Tryd.func30, Tryd.ntmps30
  go_wp2_with (first | ((with_reducible refine gate_dst (N := 2) rfl ?_); refine box_event ?hg (N := 2) ?hd (cs := #[.int .i64 a0_0, .int .i64 a0_1, .string a0_2, .slice A0_3 l0_3.length c0_3]) (t := 34) ?hr ?_; (case hd => rfl); (case hg => rfl); (case hr => first | (go_simp; done) | (go_simp; rfl)); intro gb101 hg w11 hbox hb; have n0_ := qs hb; have n1_ := Aside0.mk (hbox); have n2_ := Aside0.mk ((by rw [hg]; exact (below_size qb) : w.heap.size ≤ gb101)); have n3_ := Aside0.mk ((by rw [hg]; exact (below_size qb) : w.heap.size ≤ gb101)); clear HB; have HB := n0_; have BK101 := n1_; have GW101 := n2_; have GE101 := n3_; clear n0_ n1_ n2_ n3_; clear hb hbox hg; obtain ⟨_, _, _, _, _, _, _, _⟩ := q4 BK101.out) | ((with_reducible refine gate_callee (f := 29) rfl ?_); refine goesL_ (some 7) rfl rfl Tryd.func29 (by kernel_rfl) rfl #[.agg #[.int .i64 a0_0, .int .i64 a0_1, .string a0_2, .slice A0_3 l0_3.length c0_3]] rfl qm ?_; (with_reducible refine (expr_May.calls k a0_0 a0_1 a0_2 _ _ l0_3 false _ ?side1 ?side2 A3.out (by first | exact HT0.out | exact UT.below HT0.out qb)).mono ?_); (case side1 => exact qC HR0_3.out); (case side2 => exact HC0_3.out); rintro e w13 ⟨rfl, hb⟩; refine ⟨_, rfl, ?_⟩; have n0_ := qn (g := gb101) hb; have n1_ := qs hb; clear BK101; clear HB; have BK101 := n0_; have HB := n1_; clear n0_ n1_; (try clear hb)))
  go_ret2
  exact qr
end Go.Proofs.YtiaccdaeomaogaaDoor.F
