/- Texts of one claim, slimmed and merged by slim.py. -/
import Derived.Test.YtiaccdaeomaogaaDoorA4
import Derived.Test.YtiaccdaeomaogaaDoorA16
import Derived.Test.YtiaccdaeomaogaaDoorA18
import Derived.Test.YtiaccdaeomaogaaDoorA23
import Derived.Test.YtiaccdaeomaogaaDoorA24
import Derived.Test.YtiaccdaeomaogaaDoorA25
namespace Go.Proofs.YtiaccdaeomaogaaDoor.F
open Go.RowKit Go.Proofs.YtiaccdaeomaogaaDoorW.PrintWords Go.Proofs.YtiaccdaeomaogaaDoorW.PrintLast Go.Proofs.YtiaccdaeomaogaaDoorW.PrintMore
attribute [local go_sem] max2_int min2_int max_two min_two max_three min_three max_four min_four   -- for this text's walks alone
set_option linter.unusedVariables false
set_option linter.unusedSimpArgs false
attribute [local go_sem high] eqA57 eqA69
mutual
def malthouseref12_Same.j0 : Nat → Bool → Int → Int → Int → Int → Int → Bool → Int → List (S69) → Int → Int → Int → Int → Int → Bool → Int → List (S69) → Option (Bool)
  | 0, _, _, _, _, _, _, _, _, _, _, _, _, _, _, _, _, _ => none
  | k + 1, x47, x102000, x102001, x102002, x102003, x102004, x102005, x102006, x102007, x103000, x103001, x103002, x103003, x103004, x103005, x103006, x103007 => if x47 = true then (some false) else (malthouseref12_Same.l0 k 0 x102000 x102001 x102002 x102003 x102004 x102005 x102006 x102007 x103000 x103001 x103002 x103003 x103004 x103005 x103006 x103007)
def malthouseref12_Same.l0 : Nat → Int → Int → Int → Int → Int → Int → Bool → Int → List (S69) → Int → Int → Int → Int → Int → Bool → Int → List (S69) → Option (Bool)
  | 0, _, _, _, _, _, _, _, _, _, _, _, _, _, _, _, _, _ => none
  | k + 1, x5, x102000, x102001, x102002, x102003, x102004, x102005, x102006, x102007, x103000, x103001, x103002, x103003, x103004, x103005, x103006, x103007 => if x5 < (x102007.length : Int) then (if 0 ≤ x5 then (if x5 < (x103007.length : Int) then (if (!((((rd_T69 x102007 x5).f0).toList) == (((rd_T69 x103007 x5).f0).toList)) || (!(((rd_T69 x102007 x5).f1) == ((rd_T69 x103007 x5).f1)))) = true then (some false) else (malthouseref12_Same.l0 k (wrap64 (x5 + 1)) x102000 x102001 x102002 x102003 x102004 x102005 x102006 x102007 x103000 x103001 x103002 x103003 x103004 x103005 x103006 x103007)) else (none)) else (none)) else (some true)
end
def malthouseref12_Same.f (k : Nat) (a0_0 : Int) (a0_1 : Int) (a0_2 : Int) (a0_3 : Int) (a0_4 : Int) (a0_5 : Bool) (a0_6 : Int) (l0_7 : List (S69)) (a1_0 : Int) (a1_1 : Int) (a1_2 : Int) (a1_3 : Int) (a1_4 : Int) (a1_5 : Bool) (a1_6 : Int) (l1_7 : List (S69)) : Option (Bool) := if a0_0 = a1_0 then (if (!(a0_1 == a1_1) || (!(a0_2 == a1_2))) = true then (malthouseref12_Same.j0 k true a0_0 a0_1 a0_2 a0_3 a0_4 a0_5 a0_6 l0_7 a1_0 a1_1 a1_2 a1_3 a1_4 a1_5 a1_6 l1_7) else (if (!(a0_3 == a1_3) || (!(a0_4 == a1_4))) = true then (malthouseref12_Same.j0 k true a0_0 a0_1 a0_2 a0_3 a0_4 a0_5 a0_6 l0_7 a1_0 a1_1 a1_2 a1_3 a1_4 a1_5 a1_6 l1_7) else (if (a0_5 != a1_5) = true then (malthouseref12_Same.j0 k true a0_0 a0_1 a0_2 a0_3 a0_4 a0_5 a0_6 l0_7 a1_0 a1_1 a1_2 a1_3 a1_4 a1_5 a1_6 l1_7) else (if a0_6 = a1_6 then (malthouseref12_Same.j0 k ((l0_7.length : Int) != (l1_7.length : Int)) a0_0 a0_1 a0_2 a0_3 a0_4 a0_5 a0_6 l0_7 a1_0 a1_1 a1_2 a1_3 a1_4 a1_5 a1_6 l1_7) else (malthouseref12_Same.j0 k true a0_0 a0_1 a0_2 a0_3 a0_4 a0_5 a0_6 l0_7 a1_0 a1_1 a1_2 a1_3 a1_4 a1_5 a1_6 l1_7))))) else (malthouseref12_Same.j0 k true a0_0 a0_1 a0_2 a0_3 a0_4 a0_5 a0_6 l0_7 a1_0 a1_1 a1_2 a1_3 a1_4 a1_5 a1_6 l1_7)
set_option maxHeartbeats 8000000 in
set_option maxRecDepth 100000 in
theorem malthouseref12_Same.calls (k : Nat) (a0_0 : Int) (a0_1 : Int) (a0_2 : Int) (a0_3 : Int) (a0_4 : Int) (a0_5 : Bool) (a0_6 : Int) (A0_7 : Option Addr) (c0_7 : Nat) (l0_7 : List (S69)) (a1_0 : Int) (a1_1 : Int) (a1_2 : Int) (a1_3 : Int) (a1_4 : Int) (a1_5 : Bool) (a1_6 : Int) (A1_7 : Option Addr) (c1_7 : Nat) (l1_7 : List (S69)) (r : Bool) (w : World) (hr0_7 : Kd.C k69 w A0_7 l0_7.length l0_7) (hc0_7 : l0_7.length ≤ c0_7) (hr1_7 : Kd.C k69 w A1_7 l1_7.length l1_7) (hc1_7 : l1_7.length ≤ c1_7) (h : malthouseref12_Same.f k a0_0 a0_1 a0_2 a0_3 a0_4 a0_5 a0_6 l0_7 a1_0 a1_1 a1_2 a1_3 a1_4 a1_5 a1_6 l1_7 = some r) :
    Calls Tryd.prog 54 #[.agg #[.int .i64 a0_0, .int .i64 a0_1, .int .i64 a0_2, .int .i64 a0_3, .int .i64 a0_4, .bool a0_5, .int .i64 a0_6, .slice A0_7 l0_7.length c0_7], .agg #[.int .i64 a1_0, .int .i64 a1_1, .int .i64 a1_2, .int .i64 a1_3, .int .i64 a1_4, .bool a1_5, .int .i64 a1_6, .slice A1_7 l1_7.length c1_7]] w fun e w' => e = .returned (.bool r) ∧ Below w.heap.size w w' := by
  have hu82 := Tryd.underlying82
  have hu57 := Tryd.underlying57
  have hu69 := Tryd.underlying69
  have HR0_7 := Aside0.mk hr0_7
  have HC0_7 := Aside0.mk hc0_7
  clear hr0_7 hc0_7
  have HR1_7 := Aside0.mk hr1_7
  have HC1_7 := Aside0.mk hc1_7
  clear hr1_7 hc1_7
  have HB := Aside0.mk (Below.refl w.heap.size w)
  have H : (if a0_0 = a1_0 then (if (!(a0_1 == a1_1) || (!(a0_2 == a1_2))) = true then (malthouseref12_Same.j0 k true a0_0 a0_1 a0_2 a0_3 a0_4 a0_5 a0_6 l0_7 a1_0 a1_1 a1_2 a1_3 a1_4 a1_5 a1_6 l1_7) else (if (!(a0_3 == a1_3) || (!(a0_4 == a1_4))) = true then (malthouseref12_Same.j0 k true a0_0 a0_1 a0_2 a0_3 a0_4 a0_5 a0_6 l0_7 a1_0 a1_1 a1_2 a1_3 a1_4 a1_5 a1_6 l1_7) else (if (a0_5 != a1_5) = true then (malthouseref12_Same.j0 k true a0_0 a0_1 a0_2 a0_3 a0_4 a0_5 a0_6 l0_7 a1_0 a1_1 a1_2 a1_3 a1_4 a1_5 a1_6 l1_7) else (if a0_6 = a1_6 then (malthouseref12_Same.j0 k ((l0_7.length : Int) != (l1_7.length : Int)) a0_0 a0_1 a0_2 a0_3 a0_4 a0_5 a0_6 l0_7 a1_0 a1_1 a1_2 a1_3 a1_4 a1_5 a1_6 l1_7) else (malthouseref12_Same.j0 k true a0_0 a0_1 a0_2 a0_3 a0_4 a0_5 a0_6 l0_7 a1_0 a1_1 a1_2 a1_3 a1_4 a1_5 a1_6 l1_7))))) else (malthouseref12_Same.j0 k true a0_0 a0_1 a0_2 a0_3 a0_4 a0_5 a0_6 l0_7 a1_0 a1_1 a1_2 a1_3 a1_4 a1_5 a1_6 l1_7)) = some r := h
  clear h
  have HC3 := Aside0.mk H
  clear H
  go_enter Tryd.func54, Tryd.ntmps54
  go_upto_region 1 with (first | ((with_reducible refine gate_dst (N := 2) rfl ?_); (try (refine gate_guard (by rfl) ?_; dsimp only)); refine box_event ?hg (N := 2) ?hd (cs := #[.int .i64 a0_0, .int .i64 a0_1, .int .i64 a0_2, .int .i64 a0_3, .int .i64 a0_4, .bool a0_5, .int .i64 a0_6, .slice A0_7 l0_7.length c0_7]) (t := 82) ?hr ?_; (case hd => rfl); (case hg => rfl); (case hr => first | (go_simp; done) | (go_simp; rfl)); intro gb101 hg w4 hbox hb; have n0_ := qs hb; have n1_ := Aside0.mk (hbox); have n2_ := Aside0.mk ((by rw [hg]; exact (below_size qb) : w.heap.size ≤ gb101)); have n3_ := Aside0.mk ((by rw [hg]; exact (below_size qb) : w.heap.size ≤ gb101)); clear HB; have HB := n0_; have BK101 := n1_; have GW101 := n2_; have GE101 := n3_; clear n0_ n1_ n2_ n3_; clear hb hbox hg) | ((with_reducible refine gate_dst (N := 3) rfl ?_); (try (refine gate_guard (by rfl) ?_; dsimp only)); refine box_event ?hg (N := 3) ?hd (cs := #[.int .i64 a1_0, .int .i64 a1_1, .int .i64 a1_2, .int .i64 a1_3, .int .i64 a1_4, .bool a1_5, .int .i64 a1_6, .slice A1_7 l1_7.length c1_7]) (t := 82) ?hr ?_; (case hd => rfl); (case hg => rfl); (case hr => first | (go_simp; done) | (go_simp; rfl)); intro gb102 hg w5 hbox hb; have n0_ := qn101 (g := gb101) hb; have n1_ := qs hb; have n2_ := Aside0.mk (hbox); have n3_ := Aside0.mk ((by rw [hg]; exact (below_size qb) : w.heap.size ≤ gb102)); have n4_ := Aside0.mk ((by rw [hg]; exact (below_size qb) : w.heap.size ≤ gb102)); have n5_ := Aside0.mk ((by rw [hg]; exact Nat.ne_of_lt (blk_lt (g := gb101) (o := .cells #[.int .i64 a0_0, .int .i64 a0_1, .int .i64 a0_2, .int .i64 a0_3, .int .i64 a0_4, .bool a0_5, .int .i64 a0_6, .slice A0_7 l0_7.length c0_7] 82 (0, 0)) (by (with_reducible repeat (first | refine blk_drewN ?_ _ | refine blk_drew ?_ | refine blk_alloc ?_ _)); exact BK101.out)) : gb101 ≠ gb102)); have n6_ := Aside0.mk ((by rw [hg]; exact Nat.ne_of_gt (blk_lt (g := gb101) (o := .cells #[.int .i64 a0_0, .int .i64 a0_1, .int .i64 a0_2, .int .i64 a0_3, .int .i64 a0_4, .bool a0_5, .int .i64 a0_6, .slice A0_7 l0_7.length c0_7] 82 (0, 0)) (by (with_reducible repeat (first | refine blk_drewN ?_ _ | refine blk_drew ?_ | refine blk_alloc ?_ _)); exact BK101.out)) : gb102 ≠ gb101)); clear BK101; clear HB; have BK101 := n0_; have HB := n1_; have BK102 := n2_; have GW102 := n3_; have GE102 := n4_; have NB101_102 := n5_; have NB102_101 := n6_; clear n0_ n1_ n2_ n3_ n4_ n5_ n6_; clear hb hbox hg))
  repeat (go_quiet (first | ((with_reducible refine gate_dst (N := 2) rfl ?_); (try (refine gate_guard (by rfl) ?_; dsimp only)); refine box_event ?hg (N := 2) ?hd (cs := #[.int .i64 a0_0, .int .i64 a0_1, .int .i64 a0_2, .int .i64 a0_3, .int .i64 a0_4, .bool a0_5, .int .i64 a0_6, .slice A0_7 l0_7.length c0_7]) (t := 82) ?hr ?_; (case hd => rfl); (case hg => rfl); (case hr => first | (go_simp; done) | (go_simp; rfl)); intro gb101 hg w4 hbox hb; have n0_ := qs hb; have n1_ := Aside0.mk (hbox); have n2_ := Aside0.mk ((by rw [hg]; exact (below_size qb) : w.heap.size ≤ gb101)); have n3_ := Aside0.mk ((by rw [hg]; exact (below_size qb) : w.heap.size ≤ gb101)); clear HB; have HB := n0_; have BK101 := n1_; have GW101 := n2_; have GE101 := n3_; clear n0_ n1_ n2_ n3_; clear hb hbox hg) | ((with_reducible refine gate_dst (N := 3) rfl ?_); (try (refine gate_guard (by rfl) ?_; dsimp only)); refine box_event ?hg (N := 3) ?hd (cs := #[.int .i64 a1_0, .int .i64 a1_1, .int .i64 a1_2, .int .i64 a1_3, .int .i64 a1_4, .bool a1_5, .int .i64 a1_6, .slice A1_7 l1_7.length c1_7]) (t := 82) ?hr ?_; (case hd => rfl); (case hg => rfl); (case hr => first | (go_simp; done) | (go_simp; rfl)); intro gb102 hg w5 hbox hb; have n0_ := qn101 (g := gb101) hb; have n1_ := qs hb; have n2_ := Aside0.mk (hbox); have n3_ := Aside0.mk ((by rw [hg]; exact (below_size qb) : w.heap.size ≤ gb102)); have n4_ := Aside0.mk ((by rw [hg]; exact (below_size qb) : w.heap.size ≤ gb102)); have n5_ := Aside0.mk ((by rw [hg]; exact Nat.ne_of_lt (blk_lt (g := gb101) (o := .cells #[.int .i64 a0_0, .int .i64 a0_1, .int .i64 a0_2, .int .i64 a0_3, .int .i64 a0_4, .bool a0_5, .int .i64 a0_6, .slice A0_7 l0_7.length c0_7] 82 (0, 0)) (by (with_reducible repeat (first | refine blk_drewN ?_ _ | refine blk_drew ?_ | refine blk_alloc ?_ _)); exact BK101.out)) : gb101 ≠ gb102)); have n6_ := Aside0.mk ((by rw [hg]; exact Nat.ne_of_gt (blk_lt (g := gb101) (o := .cells #[.int .i64 a0_0, .int .i64 a0_1, .int .i64 a0_2, .int .i64 a0_3, .int .i64 a0_4, .bool a0_5, .int .i64 a0_6, .slice A0_7 l0_7.length c0_7] 82 (0, 0)) (by (with_reducible repeat (first | refine blk_drewN ?_ _ | refine blk_drew ?_ | refine blk_alloc ?_ _)); exact BK101.out)) : gb102 ≠ gb101)); clear BK101; clear HB; have BK101 := n0_; have HB := n1_; have BK102 := n2_; have GW102 := n3_; have GE102 := n4_; have NB101_102 := n5_; have NB102_101 := n6_; clear n0_ n1_ n2_ n3_ n4_ n5_ n6_; clear hb hbox hg)); go_upto_region 1 with (first | ((with_reducible refine gate_dst (N := 2) rfl ?_); (try (refine gate_guard (by rfl) ?_; dsimp only)); refine box_event ?hg (N := 2) ?hd (cs := #[.int .i64 a0_0, .int .i64 a0_1, .int .i64 a0_2, .int .i64 a0_3, .int .i64 a0_4, .bool a0_5, .int .i64 a0_6, .slice A0_7 l0_7.length c0_7]) (t := 82) ?hr ?_; (case hd => rfl); (case hg => rfl); (case hr => first | (go_simp; done) | (go_simp; rfl)); intro gb101 hg w4 hbox hb; have n0_ := qs hb; have n1_ := Aside0.mk (hbox); have n2_ := Aside0.mk ((by rw [hg]; exact (below_size qb) : w.heap.size ≤ gb101)); have n3_ := Aside0.mk ((by rw [hg]; exact (below_size qb) : w.heap.size ≤ gb101)); clear HB; have HB := n0_; have BK101 := n1_; have GW101 := n2_; have GE101 := n3_; clear n0_ n1_ n2_ n3_; clear hb hbox hg) | ((with_reducible refine gate_dst (N := 3) rfl ?_); (try (refine gate_guard (by rfl) ?_; dsimp only)); refine box_event ?hg (N := 3) ?hd (cs := #[.int .i64 a1_0, .int .i64 a1_1, .int .i64 a1_2, .int .i64 a1_3, .int .i64 a1_4, .bool a1_5, .int .i64 a1_6, .slice A1_7 l1_7.length c1_7]) (t := 82) ?hr ?_; (case hd => rfl); (case hg => rfl); (case hr => first | (go_simp; done) | (go_simp; rfl)); intro gb102 hg w5 hbox hb; have n0_ := qn101 (g := gb101) hb; have n1_ := qs hb; have n2_ := Aside0.mk (hbox); have n3_ := Aside0.mk ((by rw [hg]; exact (below_size qb) : w.heap.size ≤ gb102)); have n4_ := Aside0.mk ((by rw [hg]; exact (below_size qb) : w.heap.size ≤ gb102)); have n5_ := Aside0.mk ((by rw [hg]; exact Nat.ne_of_lt (blk_lt (g := gb101) (o := .cells #[.int .i64 a0_0, .int .i64 a0_1, .int .i64 a0_2, .int .i64 a0_3, .int .i64 a0_4, .bool a0_5, .int .i64 a0_6, .slice A0_7 l0_7.length c0_7] 82 (0, 0)) (by (with_reducible repeat (first | refine blk_drewN ?_ _ | refine blk_drew ?_ | refine blk_alloc ?_ _)); exact BK101.out)) : gb101 ≠ gb102)); have n6_ := Aside0.mk ((by rw [hg]; exact Nat.ne_of_gt (blk_lt (g := gb101) (o := .cells #[.int .i64 a0_0, .int .i64 a0_1, .int .i64 a0_2, .int .i64 a0_3, .int .i64 a0_4, .bool a0_5, .int .i64 a0_6, .slice A0_7 l0_7.length c0_7] 82 (0, 0)) (by (with_reducible repeat (first | refine blk_drewN ?_ _ | refine blk_drew ?_ | refine blk_alloc ?_ _)); exact BK101.out)) : gb102 ≠ gb101)); clear BK101; clear HB; have BK101 := n0_; have HB := n1_; have BK102 := n2_; have GW102 := n3_; have GE102 := n4_; have NB101_102 := n5_; have NB102_101 := n6_; clear n0_ n1_ n2_ n3_ n4_ n5_ n6_; clear hb hbox hg)))
  (try simp only [Act.put, List.setIfInBounds_toArray, List.set_cons_zero, List.set_cons_succ])
  go_cut [47] (fun v47 wc => ∃ (kq : Nat) (x47_2 : Bool), v47 = .bool x47_2 ∧ Aside0 (malthouseref12_Same.j0 kq x47_2 a0_0 a0_1 a0_2 a0_3 a0_4 a0_5 a0_6 l0_7 a1_0 a1_1 a1_2 a1_3 a1_4 a1_5 a1_6 l1_7 = some r) ∧ Aside0 (kq ≤ k) ∧ Aside0 (wc.heap[gb101]? = some (.cells #[.int .i64 a0_0, .int .i64 a0_1, .int .i64 a0_2, .int .i64 a0_3, .int .i64 a0_4, .bool a0_5, .int .i64 a0_6, (.slice A0_7 l0_7.length c0_7)] 82 (0, 0))) ∧ Aside0 (wc.heap[gb102]? = some (.cells #[.int .i64 a1_0, .int .i64 a1_1, .int .i64 a1_2, .int .i64 a1_3, .int .i64 a1_4, .bool a1_5, .int .i64 a1_6, (.slice A1_7 l1_7.length c1_7)] 82 (0, 0))) ∧ Aside0 (Below w.heap.size w wc))
  case first =>
    have H := HC3.out
    clear HC3
    by_cases c6 : a0_0 = a1_0
    · rw [if_pos c6] at H
      obtain ⟨c6b0, c6b1⟩ := qe c6
      clear c6
      (first | rw [c6b0] | (simp only [i64_w, i32_w]; rw [c6b0]) | skip)
      by_cases c7 : (!(a0_1 == a1_1) || (!(a0_2 == a1_2))) = true
      · rw [if_pos c7] at H
        have c7b0 : (!(a0_1 == a1_1) || (!(a0_2 == a1_2))) = true := c7
        clear c7
        have H' := Aside0.mk H
        clear H
        have hnb8 := NB101_102.out
        have hnc8 := NB102_101.out
        obtain ⟨_, _, _, _, _, _, _, _, _, _, _, _, _, _, _, _⟩ := q8 BK101.out
        obtain ⟨_, _, _, _, _, _, _, _, _, _, _, _, _, _, _, _⟩ := q8 BK102.out
        go_wp2
        repeat (go_quiet (fail); try go_wp2)
        go_meet
        case rel => exact ⟨_, (true), qv, H', ql, qk101, qk102, qB⟩
      rw [if_neg c7] at H
      have c7b0 : (!(a0_1 == a1_1) || (!(a0_2 == a1_2))) = false := by simpa using c7
      clear c7
      by_cases c11 : (!(a0_3 == a1_3) || (!(a0_4 == a1_4))) = true
      · rw [if_pos c11] at H
        have c11b0 : (!(a0_3 == a1_3) || (!(a0_4 == a1_4))) = true := c11
        clear c11
        have H' := Aside0.mk H
        clear H
        have hnb12 := NB101_102.out
        have hnc12 := NB102_101.out
        obtain ⟨_, _, _, _, _, _, _, _, _, _, _, _, _, _, _, _⟩ := q8 BK101.out
        obtain ⟨_, _, _, _, _, _, _, _, _, _, _, _, _, _, _, _⟩ := q8 BK102.out
        go_wp2
        repeat (go_quiet (fail); try go_wp2)
        go_meet
        case rel => exact ⟨_, (true), qv, H', ql, qk101, qk102, qB⟩
      rw [if_neg c11] at H
      have c11b0 : (!(a0_3 == a1_3) || (!(a0_4 == a1_4))) = false := by simpa using c11
      clear c11
      by_cases c15 : (a0_5 != a1_5) = true
      · rw [if_pos c15] at H
        have c15b0 : (a0_5 != a1_5) = true := c15
        (try (have c15b1 : decide (a0_5 = a1_5) = false := by simpa using c15))
        (try (have c15b2 : (a0_5 == a1_5) = false := by simpa using c15))
        (try (have c15b3 : ¬ (a0_5 = a1_5) := by simpa using c15))
        clear c15
        have H' := Aside0.mk H
        clear H
        have hnb16 := NB101_102.out
        have hnc16 := NB102_101.out
        obtain ⟨_, _, _, _, _, _, _, _, _, _, _, _, _, _, _, _⟩ := q8 BK101.out
        obtain ⟨_, _, _, _, _, _, _, _, _, _, _, _, _, _, _, _⟩ := q8 BK102.out
        go_wp2
        repeat (go_quiet (fail); try go_wp2)
        go_meet
        case rel => exact ⟨_, (true), qv, H', ql, qk101, qk102, qB⟩
      rw [if_neg c15] at H
      have c15b0 : (a0_5 != a1_5) = false := by simpa using c15
      (try (have c15b1 : decide (a0_5 = a1_5) = true := by simpa using c15))
      (try (have c15b2 : (a0_5 == a1_5) = true := by simpa using c15))
      clear c15
      by_cases c19 : a0_6 = a1_6
      · rw [if_pos c19] at H
        obtain ⟨c19b0, c19b1⟩ := qe c19
        clear c19
        have H' := Aside0.mk H
        clear H
        have hnb20 := NB101_102.out
        have hnc20 := NB102_101.out
        obtain ⟨_, _, _, _, _, _, _, _, _, _, _, _, _, _, _, _⟩ := q8 BK101.out
        obtain ⟨_, _, _, _, _, _, _, _, _, _, _, _, _, _, _, _⟩ := q8 BK102.out
        go_wp2
        repeat (go_quiet (fail); try go_wp2)
        go_meet
        case rel => exact ⟨_, (((l0_7.length : Int) != (l1_7.length : Int))), qv, H', ql, qk101, qk102, qB⟩
      rw [if_neg c19] at H
      obtain ⟨c19b0, c19b1⟩ := qd c19
      have H' := Aside0.mk H
      clear H
      have hnb23 := NB101_102.out
      have hnc23 := NB102_101.out
      obtain ⟨_, _, _, _, _, _, _, _, _, _, _, _, _, _, _, _⟩ := q8 BK101.out
      obtain ⟨_, _, _, _, _, _, _, _, _, _, _, _, _, _, _, _⟩ := q8 BK102.out
      go_wp2
      repeat (go_quiet (fail); try go_wp2)
      go_meet
      case rel => exact ⟨_, (true), qv, H', ql, qk101, qk102, qB⟩
    rw [if_neg c6] at H
    obtain ⟨c6b0, c6b1⟩ := qd c6
    (first | rw [c6b0] | (simp only [i64_w, i32_w]; rw [c6b0]) | skip)
    have H' := Aside0.mk H
    clear H
    have hnb26 := NB101_102.out
    have hnc26 := NB102_101.out
    obtain ⟨_, _, _, _, _, _, _, _, _, _, _, _, _, _, _, _⟩ := q8 BK101.out
    obtain ⟨_, _, _, _, _, _, _, _, _, _, _, _, _, _, _, _⟩ := q8 BK102.out
    go_wp2
    repeat (go_quiet (fail); try go_wp2)
    go_meet
    case rel => exact ⟨_, (true), qv, H', ql, qk101, qk102, qB⟩
  clear HC3
  obtain ⟨kq, x47_2, rfl, HA, HJ2, BK101, BK102, HB⟩ := hcut
  cases kq with
  | zero => exact absurd HA.out (by simp [malthouseref12_Same.j0])
  | succ kj2 =>
    have H := HA.out
    clear HA
    simp only [malthouseref12_Same.j0] at H
    by_cases c29 : x47_2 = true
    · subst c29
      rw [if_pos rfl] at H
      obtain rfl := Option.some.inj H
      go_wp2
      repeat (go_quiet (fail); try go_wp2)
      go_ret
      exact qr
    replace c29 := Bool.eq_false_iff.mpr c29
    subst c29
    rw [if_neg qf] at H
    have H' := Aside0.mk H
    clear H
    go_wp2
    repeat (go_quiet (fail); try go_wp2)
    go_loopg [5] kj2 (fun kq v5 w' => ∃ (x5_2 : Int), v5 = .int .i64 x5_2 ∧ Aside0 (malthouseref12_Same.l0 kq x5_2 a0_0 a0_1 a0_2 a0_3 a0_4 a0_5 a0_6 l0_7 a1_0 a1_1 a1_2 a1_3 a1_4 a1_5 a1_6 l1_7 = some r) ∧ Aside0 (kq ≤ kj2) ∧ Aside0 (w'.heap[gb101]? = some (.cells #[.int .i64 a0_0, .int .i64 a0_1, .int .i64 a0_2, .int .i64 a0_3, .int .i64 a0_4, .bool a0_5, .int .i64 a0_6, (.slice A0_7 l0_7.length c0_7)] 82 (0, 0))) ∧ Aside0 (w'.heap[gb102]? = some (.cells #[.int .i64 a1_0, .int .i64 a1_1, .int .i64 a1_2, .int .i64 a1_3, .int .i64 a1_4, .bool a1_5, .int .i64 a1_6, (.slice A1_7 l1_7.length c1_7)] 82 (0, 0))) ∧ Aside0 (Below w.heap.size w w'))
    case atStart => exact ⟨(0), qv, H', ⟨Nat.le_refl _⟩, qk101, qk102, qB⟩
    case round =>
      clear H'
      obtain ⟨x5_2, rfl, HA, HK2, BK101, BK102, HB⟩ := hrel
      cases gk with
      | zero => exact absurd HA.out (by simp [malthouseref12_Same.l0])
      | succ k2 =>
        have H := HA.out
        clear HA
        simp only [malthouseref12_Same.l0] at H
        by_cases c30 : x5_2 < (l0_7.length : Int)
        · rw [if_pos c30] at H
          have c30b0 : decide (x5_2 < (l0_7.length : Int)) = true := decide_eq_true c30
          clear c30
          by_cases c31 : 0 ≤ x5_2
          · rw [if_pos c31] at H
            have c31b0 : decide (0 ≤ x5_2) = true := decide_eq_true c31
            clear c31
            by_cases c32 : x5_2 < (l1_7.length : Int)
            · rw [if_pos c32] at H
              have c32b0 : decide (x5_2 < (l1_7.length : Int)) = true := decide_eq_true c32
              clear c32
              by_cases c33 : (!((((rd_T69 l0_7 x5_2).f0).toList) == (((rd_T69 l1_7 x5_2).f0).toList)) || (!(((rd_T69 l0_7 x5_2).f1) == ((rd_T69 l1_7 x5_2).f1)))) = true
              · rw [if_pos c33] at H
                have c33b0 : (!((((rd_T69 l0_7 x5_2).f0).toList) == (((rd_T69 l1_7 x5_2).f0).toList)) || (!(((rd_T69 l0_7 x5_2).f1) == ((rd_T69 l1_7 x5_2).f1)))) = true := c33
                clear c33
                obtain rfl := Option.some.inj H
                have hnb34 := NB101_102.out
                have hnc34 := NB102_101.out
                obtain ⟨_, _, _, _, _, _, _, _, _, _, _, _, _, _, _, _⟩ := q8 BK101.out
                have p103 : 0 ≤ (x5_2 : Int) := qa
                have q103 : x5_2 < (l0_7.length : Int) := qa
                obtain ⟨ad103, e103, hx103_0, hx103_1⟩ := at_T69 HR0_7.out x5_2 p103 q103
                cases e103
                replace hx103_0 := qc HB.out hx103_0
                replace hx103_1 := qc HB.out hx103_1
                replace p103 := eq_true p103
                replace q103 := eq_true q103
                obtain ⟨_, _, _, _, _, _, _, _, _, _, _, _, _, _, _, _⟩ := q8 BK102.out
                have p104 : 0 ≤ (x5_2 : Int) := qa
                have q104 : x5_2 < (l1_7.length : Int) := qa
                obtain ⟨ad104, e104, hx104_0, hx104_1⟩ := at_T69 HR1_7.out x5_2 p104 q104
                cases e104
                replace hx104_0 := qc HB.out hx104_0
                replace hx104_1 := qc HB.out hx104_1
                replace p104 := eq_true p104
                replace q104 := eq_true q104
                go_wp2
                repeat (go_quiet (fail); try go_wp2)
                go_ret
                exact qr
              rw [if_neg c33] at H
              have c33b0 : (!((((rd_T69 l0_7 x5_2).f0).toList) == (((rd_T69 l1_7 x5_2).f0).toList)) || (!(((rd_T69 l0_7 x5_2).f1) == ((rd_T69 l1_7 x5_2).f1)))) = false := by simpa using c33
              clear c33
              have H' := Aside0.mk H
              clear H
              have hnb37 := NB101_102.out
              have hnc37 := NB102_101.out
              obtain ⟨_, _, _, _, _, _, _, _, _, _, _, _, _, _, _, _⟩ := q8 BK101.out
              have p103 : 0 ≤ (x5_2 : Int) := qa
              have q103 : x5_2 < (l0_7.length : Int) := qa
              obtain ⟨ad103, e103, hx103_0, hx103_1⟩ := at_T69 HR0_7.out x5_2 p103 q103
              cases e103
              replace hx103_0 := qc HB.out hx103_0
              replace hx103_1 := qc HB.out hx103_1
              replace p103 := eq_true p103
              replace q103 := eq_true q103
              obtain ⟨_, _, _, _, _, _, _, _, _, _, _, _, _, _, _, _⟩ := q8 BK102.out
              have p104 : 0 ≤ (x5_2 : Int) := qa
              have q104 : x5_2 < (l1_7.length : Int) := qa
              obtain ⟨ad104, e104, hx104_0, hx104_1⟩ := at_T69 HR1_7.out x5_2 p104 q104
              cases e104
              replace hx104_0 := qc HB.out hx104_0
              replace hx104_1 := qc HB.out hx104_1
              replace p104 := eq_true p104
              replace q104 := eq_true q104
              go_wp2
              repeat (go_quiet (fail); try go_wp2)
              go_roundg k2
              case measure => have := HJ2.out; have := HK2.out; omega
              case rel => exact ⟨(wrap64 (x5_2 + 1)), qv, H', ⟨by have := HJ2.out; have := HK2.out; omega⟩, qk101, qk102, qB⟩
            rw [if_neg c32] at H
            exact absurd H (by simp)
          rw [if_neg c31] at H
          exact absurd H (by simp)
        rw [if_neg c30] at H
        have c30b0 : decide (x5_2 < (l0_7.length : Int)) = false := decide_eq_false c30
        clear c30
        obtain rfl := Option.some.inj H
        have hnb40 := NB101_102.out
        have hnc40 := NB102_101.out
        obtain ⟨_, _, _, _, _, _, _, _, _, _, _, _, _, _, _, _⟩ := q8 BK101.out
        go_wp2
        repeat (go_quiet (fail); try go_wp2)
        go_ret
        exact qr
end Go.Proofs.YtiaccdaeomaogaaDoor.F
namespace Go.Proofs.YtiaccdaeomaogaaDoor.F
open Go.RowKit Go.Proofs.YtiaccdaeomaogaaDoorW.PrintWords Go.Proofs.YtiaccdaeomaogaaDoorW.PrintLast Go.Proofs.YtiaccdaeomaogaaDoorW.PrintMore
set_option linter.unusedVariables false
set_option linter.unusedSimpArgs false
structure Ph where
  st : Int
  rp : Int
  rl : Int
  mp : Int
  ml : Int
  man : Bool
  code : Int
  args : List S69
abbrev Ph.w {α : Type} (x : Ph) (e : α) : Int × Int × Int × Int × Int × Bool × Int × List S69 × α := (x.st, x.rp, x.rl, x.mp, x.ml, x.man, x.code, x.args, e)
abbrev Ph.o : Ph := ⟨0, 0, 0, 0, 0, false, 0, []⟩
abbrev Ph.to (x : Ph) (s : Int) : Ph := ⟨s, x.rp, x.rl, 0, 0, x.man, x.code, x.args⟩
def phNext (s c : Int) : Int × Bool :=
  if (1 ≤ s ∧ s ≤ 6) ∧ c = 5 then (7, true) else if (1 ≤ s ∧ s ≤ 6) ∧ c = 6 then (9, true)
  else if c = 0 ∧ s = 0 then (1, true) else if c = 1 ∧ s = 1 then (2, true) else if c = 2 ∧ s = 3 then (1, true) else if c = 4 ∧ s = 5 then (6, true)
  else if c = 3 ∧ (s = 1 ∨ s = 2 ∨ s = 3 ∨ s = 6) then (4, true) else if c = 6 ∧ s = 7 then (9, true) else if c = 7 ∧ (s = 8 ∨ s = 10 ∨ s = 11) then (0, true) else (0, false)
def phRows : List S162 := [⟨0, 0, 1⟩, ⟨1, 1, 2⟩, ⟨2, 3, 1⟩, ⟨4, 5, 6⟩, ⟨3, 1, 4⟩, ⟨3, 2, 4⟩, ⟨3, 3, 4⟩, ⟨3, 6, 4⟩, ⟨6, 7, 9⟩, ⟨7, 8, 0⟩, ⟨7, 10, 0⟩, ⟨7, 11, 0⟩]
def phFind (s c : Int) : List S162 → Int × Bool
  | [] => (0, false)
  | r :: l => if r.f0 = c ∧ r.f1 = s then (r.f2, true) else phFind s c l
theorem ph_find (s c : Int) : ∀ (m i : Nat), i + m = 12 → Tot (fun k => chart_Next.l0 k s c phRows 12 (i : Int)) (phFind s c (phRows.drop i))
  | 0, i, e => by
    obtain rfl : i = 12 := by omega
    exact Tot.succ (by simp only [chart_Next.l0, if_neg (show ¬ (((12 : Nat) : Int) < 12) by decide)]; exact Tot.const _)
  | m + 1, i, e => by
    have hi : i < phRows.length := by show i < 12; omega
    have hrd : rd_T162 phRows (i : Int) = phRows[i] := by simp [rd_T162, hi]
    refine Tot.succ ?_
    simp only [chart_Next.l0]
    simp only [if_pos (show (i : Int) < 12 by omega), if_pos (show 0 ≤ (i : Int) by omega), if_pos (show (i : Int) < (phRows.length : Int) by show (i : Int) < 12; omega), hrd, List.drop_eq_getElem_cons hi, show wrap64 ((i : Int) + 1) = ((i + 1 : Nat) : Int) from by unfold wrap64; omega, phFind]
    have ih := ph_find s c m (i + 1) (by omega)
    by_cases h1 : phRows[i].f0 = c
    · by_cases h2 : phRows[i].f1 = s
      · simp only [if_pos h1, if_pos h2, if_pos (And.intro h1 h2)]; exact Tot.const _
      · simp only [if_pos h1, if_neg h2, if_neg (show ¬ (phRows[i].f0 = c ∧ phRows[i].f1 = s) from fun h => h2 h.2)]; exact ih
    · simp only [if_neg h1, if_neg (show ¬ (phRows[i].f0 = c ∧ phRows[i].f1 = s) from fun h => h1 h.1)]; exact ih
theorem phFind_eq (s c : Int) (h : ¬ ((1 ≤ s ∧ s ≤ 6) ∧ (c = 5 ∨ c = 6))) : phFind s c phRows = phNext s c := by
  unfold phRows phNext
  simp only [phFind]
  have hc : (c < 0 ∨ 8 ≤ c) ∨ c = 0 ∨ c = 1 ∨ c = 2 ∨ c = 3 ∨ c = 4 ∨ c = 5 ∨ c = 6 ∨ c = 7 := by omega
  have hs : (s < 0 ∨ 12 ≤ s) ∨ s = 0 ∨ s = 1 ∨ s = 2 ∨ s = 3 ∨ s = 4 ∨ s = 5 ∨ s = 6 ∨ s = 7 ∨ s = 8 ∨ s = 9 ∨ s = 10 ∨ s = 11 := by omega
  rcases hc with hc | rfl | rfl | rfl | rfl | rfl | rfl | rfl | rfl <;> rcases hs with hs | rfl | rfl | rfl | rfl | rfl | rfl | rfl | rfl | rfl | rfl | rfl | rfl
  all_goals first
    | rfl
    | exact absurd h (by decide)
    | (repeat (first | rfl | (rw [if_neg (by omega)]) | (rw [if_pos (by omega)])))
theorem phBusy (s : Int) : chart_busy.f s = some (decide (1 ≤ s ∧ s ≤ 6)) := by
  unfold chart_busy.f
  by_cases h : s ≥ 1
  · rw [if_pos h]; congr 1; by_cases h2 : s ≤ 6 <;> simp [h2] <;> omega
  · rw [if_neg h]; congr 1; symm; exact decide_eq_false (by omega)
theorem Next_tot (s c : Int) : Tot (fun k => chart_Next.f k s c) (phNext s c) := by
  have hj : ∀ v, Tot (fun k => chart_Next.l0 k s c phRows 12 0) v → Tot (fun k => chart_Next.j1 k s c) v := fun v hv => Tot.succ (by simp only [chart_Next.j1]; exact hv)
  unfold chart_Next.f
  simp only [phBusy, Option.bind_some]
  by_cases hb : 1 ≤ s ∧ s ≤ 6
  · simp only [decide_eq_true hb, if_true]
    refine Tot.succ ?_
    by_cases h5 : c = 5
    · simp only [h5, beq_self_eq_true, chart_Next.j0, if_true]
      rw [show phNext s 5 = (7, true) by unfold phNext; rw [if_pos ⟨hb, rfl⟩]]; exact Tot.const _
    · simp only [beq_eq_false_iff_ne.mpr h5, chart_Next.j0, if_neg (show ¬ (false = true) by decide), phBusy, Option.bind_some, decide_eq_true hb, if_true]
      by_cases h6 : c = 6
      · simp only [if_pos h6]
        rw [show phNext s c = (9, true) by unfold phNext; rw [if_neg (by omega), if_pos ⟨hb, h6⟩]]; exact Tot.const _
      · simp only [if_neg h6]
        refine hj _ ?_
        rw [← phFind_eq s c (by omega)]; exact ph_find s c 12 0 rfl
  · simp only [decide_eq_false hb, if_neg (show ¬ (false = true) by decide)]
    refine Tot.succ ?_
    simp only [chart_Next.j0, if_neg (show ¬ (false = true) by decide), phBusy, Option.bind_some, decide_eq_false hb]
    refine hj _ ?_
    rw [← phFind_eq s c (by omega)]; exact ph_find s c 12 0 rfl
theorem namesAll_tot : ∀ (l : List S69), (∀ c ∈ l, c.f0.size ≤ 200) → ∃ b, namesAll l = some b
  | [], _ => ⟨true, rfl⟩
  | c :: l, h => by
    obtain ⟨b, hb⟩ := Name_tot c.f0 (by have := h c (.head _); omega)
    obtain ⟨b2, hb2⟩ := namesAll_tot l (fun x hx => h x (.tail _ hx))
    cases b with
    | true => exact ⟨b2, by unfold namesAll; rw [hb]; exact hb2⟩
    | false => exact ⟨false, by unfold namesAll; rw [hb]; rfl⟩
def argsP (l : List S69) : Bool := (phase_named.f l).getD false
def Small (l : List S69) : Prop := ∀ c ∈ l, c.f0.size ≤ 200
theorem args_eq {l : List S69} (h : Small l) : phase_named.f l = some (argsP l) := by
  obtain ⟨b, hb⟩ := namesAll_tot l h
  unfold argsP phase_named.f
  split
  · rw [hb]; rfl
  · rfl
theorem args_len {l : List S69} (h : argsP l = true) : l.length ≤ 4 := by
  unfold argsP phase_named.f at h
  split at h
  · omega
  · cases h
theorem clone_eq {l : List S69} (h : l.length < 1000000000) : api_Cell_86.f l = some l := by unfold api_Cell_86.f; rw [if_pos h]
theorem in_eq (x : Ph) (s : Int) (h : x.args.length < 1000000000) : phase_in.f x.st x.rp x.rl x.mp x.ml x.man x.code x.args s = some (s, x.rp, x.rl, 0, 0, x.man, x.code, x.args) := by
  unfold phase_in.f; rw [clone_eq h]; rfl
def cmdP (x : Ph) (c : Int) : Ph × Int :=
  if (phNext x.st c).2 = true ∧ c ≠ 0 then (if c = 7 then (⟨(phNext x.st c).1, 0, 0, 0, 0, x.man, 0, []⟩, 0) else (x.to (phNext x.st c).1, 0)) else (Ph.o, 100)
theorem Command_tot (x : Ph) (c : Int) (h : x.args.length < 1000000000) : Tot (fun k => phase_Command.f k x.st x.rp x.rl x.mp x.ml x.man x.code x.args c) ((cmdP x c).1.w (cmdP x c).2) := by
  unfold phase_Command.f
  refine Tot.bind (Next_tot x.st c) ?_
  have J : ∀ b, Tot (fun k => phase_Command.j0 k c (phNext x.st c).1 b x.st x.rp x.rl x.mp x.ml x.man x.code x.args) (if b = true then Ph.o.w 100 else if c = 7 then (⟨(phNext x.st c).1, 0, 0, 0, 0, x.man, 0, []⟩ : Ph).w 0 else (x.to (phNext x.st c).1).w 0) := fun b => by
    refine Tot.succ ?_
    simp only [phase_Command.j0, in_eq x _ h, Option.bind_some]
    cases b with
    | true => simp only [if_true]; exact Tot.const _
    | false =>
      simp only [if_neg (show ¬ (false = true) by decide)]
      by_cases h7 : c = 7
      · simp only [if_pos h7]; exact Tot.const _
      · simp only [if_neg h7]; exact Tot.const _
  unfold cmdP
  by_cases hn : (phNext x.st c).2 = true
  · simp only [hn, if_true, true_and]
    have j := J (c == 0)
    by_cases h0 : c = 0
    · simp only [h0, beq_self_eq_true, if_true, ne_eq, not_true_eq_false, if_false] at j ⊢; exact j
    · rw [beq_eq_false_iff_ne.mpr h0] at j
      simp only [if_neg (show ¬ (false = true) by decide)] at j
      simp only [beq_eq_false_iff_ne.mpr h0, if_pos (show c ≠ 0 from h0)]
      by_cases h7 : c = 7
      · simp only [if_pos h7] at j ⊢; exact j
      · simp only [if_neg h7] at j ⊢; exact j
  · simp only [if_neg hn, if_neg (show ¬ ((phNext x.st c).2 = true ∧ c ≠ 0) from fun h => hn h.1)]
    exact J true
def startP (x : Ph) (l : List S69) : Ph × Int := if x.st = 0 then (if argsP l = true then (⟨1, 0, 0, 0, 0, x.man, 0, l⟩, 0) else (Ph.o, 1)) else (Ph.o, 100)
theorem start_eq (x : Ph) (l : List S69) (hs : Small l) (h : l.length < 1000000000) : phase_Start.f x.st x.rp x.rl x.mp x.ml x.man x.code x.args l = some ((startP x l).1.w (startP x l).2) := by
  unfold phase_Start.f startP
  rw [args_eq hs, clone_eq h]
  by_cases h0 : x.st = 0
  · simp only [if_pos h0, Option.bind_some]
    by_cases ha : argsP l = true
    · simp only [if_pos ha]
    · simp only [if_neg ha]
  · simp only [if_neg h0]
end Go.Proofs.YtiaccdaeomaogaaDoor.F
