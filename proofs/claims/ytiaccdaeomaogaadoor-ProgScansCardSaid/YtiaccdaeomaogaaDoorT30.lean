/- Texts of one claim, slimmed and merged by slim.py. -/
import Derived.Test.YtiaccdaeomaogaaDoorT4
import Derived.Test.YtiaccdaeomaogaaDoorT27
import Derived.Test.YtiaccdaeomaogaaDoorT28
import Derived.Test.YtiaccdaeomaogaaDoorT29
namespace Go.Proofs.YtiaccdaeomaogaaDoor.F
open Go.RowKit Go.Proofs.YtiaccdaeomaogaaDoorW.PrintWords Go.Proofs.YtiaccdaeomaogaaDoorW.PrintLast Go.Proofs.YtiaccdaeomaogaaDoorW.PrintMore
attribute [local go_sem] max2_int min2_int max_two min_two max_three min_three max_four min_four   -- for this text's walks alone
set_option linter.unusedVariables false
set_option linter.unusedSimpArgs false
mutual
def malthouseref02_reckon.l0 : Nat → List (S69) → List Int → Int → Int → Int → ByteArray → List (S34) → Option (Int × Int)
  | 0, _, _, _, _, _, _, _ => none
  | k + 1, x1, x8, x9, x102000, x102001, x102002, x102003 => if x9 < (x102003.length : Int) then (if 0 ≤ x9 then ((malthouseref02_reckon.f k ((rd_T34 x102003 x9).f0) ((rd_T34 x102003 x9).f1) ((rd_T34 x102003 x9).f2) ((rd_T34 x102003 x9).f3) x1).bind fun bt105 => (if bt105.2 = 0 then (if x8.length < 17592186044416 then (malthouseref02_reckon.l0 k x1 (x8 ++ [bt105.1]) (wrap64 (x9 + 1)) x102000 x102001 x102002 x102003) else (none)) else (some (0, bt105.2)))) else (none)) else (if x102000 = 2 then (if 0 < (x8.length : Int) then ((malthouseref02_Two.f k 5 0 (rd x8 0)).bind fun bt111 => (some (bt111.1, bt111.2))) else (none)) else (if x102000 = 3 then (if 0 < (x8.length : Int) then ((malthouseref02_truth.f ((rd x8 0) == 0)).bind fun t114 => (some (t114, 0))) else (none)) else (if 0 < (x8.length : Int) then (if 1 < (x8.length : Int) then ((malthouseref02_Two.f k x102000 (rd x8 0) (rd x8 1)).bind fun bt117 => (some (bt117.1, bt117.2))) else (none)) else (none))))
def malthouseref02_reckon.f : Nat → Int → Int → ByteArray → List (S34) → List (S69) → Option (Int × Int)
  | 0, _, _, _, _, _ => none
  | k + 1, a0_0, a0_1, a0_2, l0_3, l1 => if a0_0 = 0 then (some (a0_1, 0)) else (if a0_0 = 1 then ((malthouseref02_Cell.f k l1 a0_2).bind fun bt102 => (if bt102.2 = true then (some (bt102.1, 0)) else (some (0, 21)))) else (malthouseref02_reckon.l0 k l1 ([] : List Int) 0 a0_0 a0_1 a0_2 l0_3))
end
set_option maxHeartbeats 8000000 in
set_option maxRecDepth 100000 in
theorem malthouseref02_reckon.calls (k : Nat) : ∀ (a0_0 : Int) (a0_1 : Int) (a0_2 : ByteArray) (A0_3 : Option Addr) (c0_3 : Nat) (l0_3 : List (S34)) (A1 : Option Addr) (c1 : Nat) (l1 : List (S69)) (r1 : Int) (r2 : Int) (w : World) (hr0_3 : Kd.C k34 w A0_3 l0_3.length l0_3) (hc0_3 : l0_3.length ≤ c0_3) (hr1 : Kd.C k69 w A1 l1.length l1) (hc1 : l1.length ≤ c1) (h : malthouseref02_reckon.f k a0_0 a0_1 a0_2 l0_3 l1 = some (r1, r2)),
  Calls Tryd.prog 103 #[.agg #[.int .i64 a0_0, .int .i64 a0_1, .string a0_2, .slice A0_3 l0_3.length c0_3], .slice A1 l1.length c1] w fun e w' => e = .returned (.tuple #[.int .i64 r1, .int .i64 r2]) ∧ Below w.heap.size w w' := by
 induction k using Nat.strongRecOn with
 | _ k ih =>
 intro a0_0 a0_1 a0_2 A0_3 c0_3 l0_3 A1 c1 l1 r1 r2 w hr0_3 hc0_3 hr1 hc1 h
 cases k with
 | zero => exact absurd h (by simp [malthouseref02_reckon.f])
 | succ k =>
 simp only [malthouseref02_reckon.f] at h
 have hu34 := Tryd.underlying34
 have HR0_3 := Aside0.mk hr0_3
 have HC0_3 := Aside0.mk hc0_3
 clear hr0_3 hc0_3
 have HR1 := Aside0.mk hr1
 have HC1 := Aside0.mk hc1
 clear hr1 hc1
 have HB := Aside0.mk (Below.refl w.heap.size w)
 have H : (if a0_0 = 0 then (some (a0_1, 0)) else (if a0_0 = 1 then ((malthouseref02_Cell.f k l1 a0_2).bind fun bt102 => (if bt102.2 = true then (some (bt102.1, 0)) else (some (0, 21)))) else (malthouseref02_reckon.l0 k l1 ([] : List Int) 0 a0_0 a0_1 a0_2 l0_3))) = some (r1, r2) := h
 clear h
 by_cases c3 : a0_0 = 0
 ·rw [if_pos c3] at H
  obtain ⟨c3b0, c3b1⟩ := qe c3
  clear c3
  simp only [Option.some.injEq, Prod.mk.injEq] at H
  obtain ⟨rfl, rfl⟩ := H
  go_enter Tryd.func103, Tryd.ntmps103
  go_wp2_with (first | ((with_reducible refine gate_dst (N := 2) rfl ?_); refine box_event ?hg (N := 2) ?hd (cs := #[.int .i64 a0_0, .int .i64 a0_1, .string a0_2, .slice A0_3 l0_3.length c0_3]) (t := 34) ?hr ?_; (case hd => rfl); (case hg => rfl); (case hr => first | (go_simp; done) | (go_simp; rfl)); intro gb101 hg w4 hbox hb; have n0_ := qs hb; have n1_ := Aside0.mk (hbox); have n2_ := Aside0.mk ((by rw [hg]; exact (below_size qb) : w.heap.size ≤ gb101)); have n3_ := Aside0.mk ((by rw [hg]; exact (below_size qb) : w.heap.size ≤ gb101)); clear HB; have HB := n0_; have BK101 := n1_; have GW101 := n2_; have GE101 := n3_; clear n0_ n1_ n2_ n3_; clear hb hbox hg; obtain ⟨_, _, _, _, _, _, _, _⟩ := q4 BK101.out))
  repeat (go_quiet (first | ((with_reducible refine gate_dst (N := 2) rfl ?_); refine box_event ?hg (N := 2) ?hd (cs := #[.int .i64 a0_0, .int .i64 a0_1, .string a0_2, .slice A0_3 l0_3.length c0_3]) (t := 34) ?hr ?_; (case hd => rfl); (case hg => rfl); (case hr => first | (go_simp; done) | (go_simp; rfl)); intro gb101 hg w4 hbox hb; have n0_ := qs hb; have n1_ := Aside0.mk (hbox); have n2_ := Aside0.mk ((by rw [hg]; exact (below_size qb) : w.heap.size ≤ gb101)); have n3_ := Aside0.mk ((by rw [hg]; exact (below_size qb) : w.heap.size ≤ gb101)); clear HB; have HB := n0_; have BK101 := n1_; have GW101 := n2_; have GE101 := n3_; clear n0_ n1_ n2_ n3_; clear hb hbox hg; obtain ⟨_, _, _, _, _, _, _, _⟩ := q4 BK101.out)); try go_wp2_with (first | ((with_reducible refine gate_dst (N := 2) rfl ?_); refine box_event ?hg (N := 2) ?hd (cs := #[.int .i64 a0_0, .int .i64 a0_1, .string a0_2, .slice A0_3 l0_3.length c0_3]) (t := 34) ?hr ?_; (case hd => rfl); (case hg => rfl); (case hr => first | (go_simp; done) | (go_simp; rfl)); intro gb101 hg w4 hbox hb; have n0_ := qs hb; have n1_ := Aside0.mk (hbox); have n2_ := Aside0.mk ((by rw [hg]; exact (below_size qb) : w.heap.size ≤ gb101)); have n3_ := Aside0.mk ((by rw [hg]; exact (below_size qb) : w.heap.size ≤ gb101)); clear HB; have HB := n0_; have BK101 := n1_; have GW101 := n2_; have GE101 := n3_; clear n0_ n1_ n2_ n3_; clear hb hbox hg; obtain ⟨_, _, _, _, _, _, _, _⟩ := q4 BK101.out)))
  go_ret2
  exact qr
 rw [if_neg c3] at H
 obtain ⟨c3b0, c3b1⟩ := qd c3
 by_cases c6 : a0_0 = 1
 ·rw [if_pos c6] at H
  obtain ⟨c6b0, c6b1⟩ := qe c6
  clear c6
  replace H := qi H
  obtain ⟨⟨t102, t103⟩, A7, H⟩ := H
  replace H : (if t103 = true then (some (t102, 0)) else (some (0, 21))) = some (r1, r2) := H
  by_cases c8 : t103 = true
  ·subst c8
   rw [if_pos rfl] at H
   simp only [Option.some.injEq, Prod.mk.injEq] at H
   obtain ⟨rfl, rfl⟩ := H
   go_enter Tryd.func103, Tryd.ntmps103
   go_wp2_with (first | ((with_reducible refine gate_dst (N := 2) rfl ?_); refine box_event ?hg (N := 2) ?hd (cs := #[.int .i64 a0_0, .int .i64 a0_1, .string a0_2, .slice A0_3 l0_3.length c0_3]) (t := 34) ?hr ?_; (case hd => rfl); (case hg => rfl); (case hr => first | (go_simp; done) | (go_simp; rfl)); intro gb101 hg w9 hbox hb; have n0_ := qs hb; have n1_ := Aside0.mk (hbox); have n2_ := Aside0.mk ((by rw [hg]; exact (below_size qb) : w.heap.size ≤ gb101)); have n3_ := Aside0.mk ((by rw [hg]; exact (below_size qb) : w.heap.size ≤ gb101)); clear HB; have HB := n0_; have BK101 := n1_; have GW101 := n2_; have GE101 := n3_; clear n0_ n1_ n2_ n3_; clear hb hbox hg; obtain ⟨_, _, _, _, _, _, _, _⟩ := q4 BK101.out) | (go_at_call 135; (with_reducible refine (malthouseref02_Cell.calls k _ _ l1 a0_2 t102 true _ ?side1 ?side2 A7.out).mono ?_); (case side1 => exact qC HR1.out); (case side2 => exact HC1.out); rintro e w' ⟨rfl, ⟨nd, rfl⟩⟩; (try first | exact qw | exact ⟨rfl, _, Eq.trans (World.drewN_drewN _ _ _) (congrArg (World.drewN _) (Nat.add_assoc _ _ _))⟩)))
   repeat (go_quiet (first | ((with_reducible refine gate_dst (N := 2) rfl ?_); refine box_event ?hg (N := 2) ?hd (cs := #[.int .i64 a0_0, .int .i64 a0_1, .string a0_2, .slice A0_3 l0_3.length c0_3]) (t := 34) ?hr ?_; (case hd => rfl); (case hg => rfl); (case hr => first | (go_simp; done) | (go_simp; rfl)); intro gb101 hg w9 hbox hb; have n0_ := qs hb; have n1_ := Aside0.mk (hbox); have n2_ := Aside0.mk ((by rw [hg]; exact (below_size qb) : w.heap.size ≤ gb101)); have n3_ := Aside0.mk ((by rw [hg]; exact (below_size qb) : w.heap.size ≤ gb101)); clear HB; have HB := n0_; have BK101 := n1_; have GW101 := n2_; have GE101 := n3_; clear n0_ n1_ n2_ n3_; clear hb hbox hg; obtain ⟨_, _, _, _, _, _, _, _⟩ := q4 BK101.out) | (go_at_call 135; (with_reducible refine (malthouseref02_Cell.calls k _ _ l1 a0_2 t102 true _ ?side1 ?side2 A7.out).mono ?_); (case side1 => exact qC HR1.out); (case side2 => exact HC1.out); rintro e w' ⟨rfl, ⟨nd, rfl⟩⟩; (try first | exact qw | exact ⟨rfl, _, Eq.trans (World.drewN_drewN _ _ _) (congrArg (World.drewN _) (Nat.add_assoc _ _ _))⟩))); try go_wp2_with (first | ((with_reducible refine gate_dst (N := 2) rfl ?_); refine box_event ?hg (N := 2) ?hd (cs := #[.int .i64 a0_0, .int .i64 a0_1, .string a0_2, .slice A0_3 l0_3.length c0_3]) (t := 34) ?hr ?_; (case hd => rfl); (case hg => rfl); (case hr => first | (go_simp; done) | (go_simp; rfl)); intro gb101 hg w9 hbox hb; have n0_ := qs hb; have n1_ := Aside0.mk (hbox); have n2_ := Aside0.mk ((by rw [hg]; exact (below_size qb) : w.heap.size ≤ gb101)); have n3_ := Aside0.mk ((by rw [hg]; exact (below_size qb) : w.heap.size ≤ gb101)); clear HB; have HB := n0_; have BK101 := n1_; have GW101 := n2_; have GE101 := n3_; clear n0_ n1_ n2_ n3_; clear hb hbox hg; obtain ⟨_, _, _, _, _, _, _, _⟩ := q4 BK101.out) | (go_at_call 135; (with_reducible refine (malthouseref02_Cell.calls k _ _ l1 a0_2 t102 true _ ?side1 ?side2 A7.out).mono ?_); (case side1 => exact qC HR1.out); (case side2 => exact HC1.out); rintro e w' ⟨rfl, ⟨nd, rfl⟩⟩; (try first | exact qw | exact ⟨rfl, _, Eq.trans (World.drewN_drewN _ _ _) (congrArg (World.drewN _) (Nat.add_assoc _ _ _))⟩))))
   go_ret2
   exact qr
  replace c8 := Bool.eq_false_iff.mpr c8
  subst c8
  rw [if_neg qf] at H
  simp only [Option.some.injEq, Prod.mk.injEq] at H
  obtain ⟨rfl, rfl⟩ := H
  go_enter Tryd.func103, Tryd.ntmps103
  go_wp2_with (first | ((with_reducible refine gate_dst (N := 2) rfl ?_); refine box_event ?hg (N := 2) ?hd (cs := #[.int .i64 a0_0, .int .i64 a0_1, .string a0_2, .slice A0_3 l0_3.length c0_3]) (t := 34) ?hr ?_; (case hd => rfl); (case hg => rfl); (case hr => first | (go_simp; done) | (go_simp; rfl)); intro gb101 hg w11 hbox hb; have n0_ := qs hb; have n1_ := Aside0.mk (hbox); have n2_ := Aside0.mk ((by rw [hg]; exact (below_size qb) : w.heap.size ≤ gb101)); have n3_ := Aside0.mk ((by rw [hg]; exact (below_size qb) : w.heap.size ≤ gb101)); clear HB; have HB := n0_; have BK101 := n1_; have GW101 := n2_; have GE101 := n3_; clear n0_ n1_ n2_ n3_; clear hb hbox hg; obtain ⟨_, _, _, _, _, _, _, _⟩ := q4 BK101.out) | (go_at_call 135; (with_reducible refine (malthouseref02_Cell.calls k _ _ l1 a0_2 t102 false _ ?side1 ?side2 A7.out).mono ?_); (case side1 => exact qC HR1.out); (case side2 => exact HC1.out); rintro e w' ⟨rfl, ⟨nd, rfl⟩⟩; (try first | exact qw | exact ⟨rfl, _, Eq.trans (World.drewN_drewN _ _ _) (congrArg (World.drewN _) (Nat.add_assoc _ _ _))⟩)))
  repeat (go_quiet (first | ((with_reducible refine gate_dst (N := 2) rfl ?_); refine box_event ?hg (N := 2) ?hd (cs := #[.int .i64 a0_0, .int .i64 a0_1, .string a0_2, .slice A0_3 l0_3.length c0_3]) (t := 34) ?hr ?_; (case hd => rfl); (case hg => rfl); (case hr => first | (go_simp; done) | (go_simp; rfl)); intro gb101 hg w11 hbox hb; have n0_ := qs hb; have n1_ := Aside0.mk (hbox); have n2_ := Aside0.mk ((by rw [hg]; exact (below_size qb) : w.heap.size ≤ gb101)); have n3_ := Aside0.mk ((by rw [hg]; exact (below_size qb) : w.heap.size ≤ gb101)); clear HB; have HB := n0_; have BK101 := n1_; have GW101 := n2_; have GE101 := n3_; clear n0_ n1_ n2_ n3_; clear hb hbox hg; obtain ⟨_, _, _, _, _, _, _, _⟩ := q4 BK101.out) | (go_at_call 135; (with_reducible refine (malthouseref02_Cell.calls k _ _ l1 a0_2 t102 false _ ?side1 ?side2 A7.out).mono ?_); (case side1 => exact qC HR1.out); (case side2 => exact HC1.out); rintro e w' ⟨rfl, ⟨nd, rfl⟩⟩; (try first | exact qw | exact ⟨rfl, _, Eq.trans (World.drewN_drewN _ _ _) (congrArg (World.drewN _) (Nat.add_assoc _ _ _))⟩))); try go_wp2_with (first | ((with_reducible refine gate_dst (N := 2) rfl ?_); refine box_event ?hg (N := 2) ?hd (cs := #[.int .i64 a0_0, .int .i64 a0_1, .string a0_2, .slice A0_3 l0_3.length c0_3]) (t := 34) ?hr ?_; (case hd => rfl); (case hg => rfl); (case hr => first | (go_simp; done) | (go_simp; rfl)); intro gb101 hg w11 hbox hb; have n0_ := qs hb; have n1_ := Aside0.mk (hbox); have n2_ := Aside0.mk ((by rw [hg]; exact (below_size qb) : w.heap.size ≤ gb101)); have n3_ := Aside0.mk ((by rw [hg]; exact (below_size qb) : w.heap.size ≤ gb101)); clear HB; have HB := n0_; have BK101 := n1_; have GW101 := n2_; have GE101 := n3_; clear n0_ n1_ n2_ n3_; clear hb hbox hg; obtain ⟨_, _, _, _, _, _, _, _⟩ := q4 BK101.out) | (go_at_call 135; (with_reducible refine (malthouseref02_Cell.calls k _ _ l1 a0_2 t102 false _ ?side1 ?side2 A7.out).mono ?_); (case side1 => exact qC HR1.out); (case side2 => exact HC1.out); rintro e w' ⟨rfl, ⟨nd, rfl⟩⟩; (try first | exact qw | exact ⟨rfl, _, Eq.trans (World.drewN_drewN _ _ _) (congrArg (World.drewN _) (Nat.add_assoc _ _ _))⟩))))
  go_ret2
  exact qr
 rw [if_neg c6] at H
 obtain ⟨c6b0, c6b1⟩ := qd c6
 have H' := Aside0.mk H
 clear H
 go_enter Tryd.func103, Tryd.ntmps103
 go_wp2_with (first | ((with_reducible refine gate_dst (N := 2) rfl ?_); refine box_event ?hg (N := 2) ?hd (cs := #[.int .i64 a0_0, .int .i64 a0_1, .string a0_2, .slice A0_3 l0_3.length c0_3]) (t := 34) ?hr ?_; (case hd => rfl); (case hg => rfl); (case hr => first | (go_simp; done) | (go_simp; rfl)); intro gb101 hg w13 hbox hb; have n0_ := qs hb; have n1_ := Aside0.mk (hbox); have n2_ := Aside0.mk ((by rw [hg]; exact (below_size qb) : w.heap.size ≤ gb101)); have n3_ := Aside0.mk ((by rw [hg]; exact (below_size qb) : w.heap.size ≤ gb101)); clear HB; have HB := n0_; have BK101 := n1_; have GW101 := n2_; have GE101 := n3_; clear n0_ n1_ n2_ n3_; clear hb hbox hg; obtain ⟨_, _, _, _, _, _, _, _⟩ := q4 BK101.out))
 repeat (go_quiet (first | ((with_reducible refine gate_dst (N := 2) rfl ?_); refine box_event ?hg (N := 2) ?hd (cs := #[.int .i64 a0_0, .int .i64 a0_1, .string a0_2, .slice A0_3 l0_3.length c0_3]) (t := 34) ?hr ?_; (case hd => rfl); (case hg => rfl); (case hr => first | (go_simp; done) | (go_simp; rfl)); intro gb101 hg w13 hbox hb; have n0_ := qs hb; have n1_ := Aside0.mk (hbox); have n2_ := Aside0.mk ((by rw [hg]; exact (below_size qb) : w.heap.size ≤ gb101)); have n3_ := Aside0.mk ((by rw [hg]; exact (below_size qb) : w.heap.size ≤ gb101)); clear HB; have HB := n0_; have BK101 := n1_; have GW101 := n2_; have GE101 := n3_; clear n0_ n1_ n2_ n3_; clear hb hbox hg; obtain ⟨_, _, _, _, _, _, _, _⟩ := q4 BK101.out)); try go_wp2_with (first | ((with_reducible refine gate_dst (N := 2) rfl ?_); refine box_event ?hg (N := 2) ?hd (cs := #[.int .i64 a0_0, .int .i64 a0_1, .string a0_2, .slice A0_3 l0_3.length c0_3]) (t := 34) ?hr ?_; (case hd => rfl); (case hg => rfl); (case hr => first | (go_simp; done) | (go_simp; rfl)); intro gb101 hg w13 hbox hb; have n0_ := qs hb; have n1_ := Aside0.mk (hbox); have n2_ := Aside0.mk ((by rw [hg]; exact (below_size qb) : w.heap.size ≤ gb101)); have n3_ := Aside0.mk ((by rw [hg]; exact (below_size qb) : w.heap.size ≤ gb101)); clear HB; have HB := n0_; have BK101 := n1_; have GW101 := n2_; have GE101 := n3_; clear n0_ n1_ n2_ n3_; clear hb hbox hg; obtain ⟨_, _, _, _, _, _, _, _⟩ := q4 BK101.out)))
 go_loopg [8, 9] k (fun kq v8 v9 w' => ∃ (x8_1 : List Int) (x9_1 : Int), v9 = .int .i64 x9_1 ∧ Aside0 (malthouseref02_reckon.l0 kq l1 x8_1 x9_1 a0_0 a0_1 a0_2 l0_3 = some (r1, r2)) ∧ Aside0 (kq ≤ k) ∧ Aside0 (Kd.R (Kd.int .i64) 3 w' w.heap.size (fun _ => True) v8 x8_1) ∧ Aside0 (w'.heap[gb101]? = some (.cells #[.int .i64 a0_0, .int .i64 a0_1, .string a0_2, (.slice A0_3 l0_3.length c0_3)] 34 (0, 0))) ∧ Aside0 (Below w.heap.size w w'))
 case atStart => exact ⟨(([] : List Int)), (0), qv, H', ⟨Nat.le_refl _⟩, ⟨by first | exact Kd.R_nil _ _ _ _ _ | exact Kd.N_nil _ _ _ _ _ | exact Kd.V_nil _ _ _ _ _ | exact Kd.Q_nil _ _ _ _ _ | exact Kd.S_nil _ _ _ _ _⟩, qk101, qB⟩
 case round =>
  clear H'
  obtain ⟨x8_1, x9_1, rfl, HA, HK1, HO_8, BK101, HB⟩ := hrel
  cases gk with
  | zero => exact absurd HA.out (by simp [malthouseref02_reckon.l0])
  | succ k1 =>
   have H := HA.out
   clear HA
   simp only [malthouseref02_reckon.l0] at H
   by_cases c15 : x9_1 < (l0_3.length : Int)
   ·rw [if_pos c15] at H
    have c15b0 : decide (x9_1 < (l0_3.length : Int)) = true := decide_eq_true c15
    clear c15
    by_cases c16 : 0 ≤ x9_1
    ·rw [if_pos c16] at H
     have c16b0 : decide (0 ≤ x9_1) = true := decide_eq_true c16
     clear c16
     replace H := qi H
     obtain ⟨⟨t105, t106⟩, A17, H⟩ := H
     replace H : (if t106 = 0 then (if x8_1.length < 17592186044416 then (malthouseref02_reckon.l0 k1 l1 (x8_1 ++ [t105]) (wrap64 (x9_1 + 1)) a0_0 a0_1 a0_2 l0_3) else (none)) else (some (0, t106))) = some (r1, r2) := H
     by_cases c18 : t106 = 0
     ·rw [if_pos c18] at H
      obtain ⟨c18b0, c18b1⟩ := qe c18
      clear c18
      by_cases c19 : x8_1.length < 17592186044416
      ·rw [if_pos c19] at H
       have LMc19 := Aside0.mk c19
       clear c19
       obtain ⟨y107, hy107⟩ : ∃ y_ : List Int, y_ = (x8_1 ++ [t105]) := ⟨_, rfl⟩
       replace H : (malthouseref02_reckon.l0 k1 l1 y107 (wrap64 (x9_1 + 1)) a0_0 a0_1 a0_2 l0_3) = some (r1, r2) := by first | (rw [hy107]; with_reducible exact H) | (have H2_ := (Option.bind_some _ _).symm.trans H; rw [hy107]; with_reducible exact H2_) | (have H2_ := (Option.bind_some _ _).symm.trans H; with_reducible exact H2_) | with_reducible exact H | (rw [hy107]; exact H) | exact H
       have Ny107 := Aside0.mk hy107
       clear hy107
       have H' := Aside0.mk H
       clear H
       obtain ⟨_, _, _, _, _, _, _, _⟩ := q4 BK101.out
       have p104 : 0 ≤ (x9_1 : Int) := qa
       have q104 : x9_1 < (l0_3.length : Int) := qa
       obtain ⟨ad104, A104_3, c104_3, e104, hx104_0, hx104_1, hx104_2, hx104_3, hl104_3, hi104_3⟩ := at_T34 HR0_3.out x9_1 p104 q104
       cases e104
       replace hx104_0 := qc HB.out hx104_0
       replace hx104_1 := qc HB.out hx104_1
       replace hx104_2 := qc HB.out hx104_2
       replace hx104_3 := qc HB.out hx104_3
       have HR104_3 := Aside0.mk hi104_3
       have HC104_3 := Aside0.mk hl104_3
       clear hi104_3 hl104_3
       replace p104 := eq_true p104
       replace q104 := eq_true q104
       go_wp2_with (first | (go_at_call 103; (with_reducible refine (ih k1 (by have := HK1.out; omega) ((rd_T34 l0_3 x9_1).f0) ((rd_T34 l0_3 x9_1).f1) ((rd_T34 l0_3 x9_1).f2) _ _ ((rd_T34 l0_3 x9_1).f3) _ _ l1 t105 t106 _ ?side1 ?side2 ?side3 ?side4 A17.out).mono ?_); (case side1 => exact qC HR104_3.out); (case side2 => exact HC104_3.out); (case side3 => exact qC HR1.out); (case side4 => exact HC1.out); rintro e w21 ⟨rfl, hb⟩; have n0_ := Aside0.mk (Kd.R_below (by (with_reducible repeat (first | apply Kd.R_alloc | apply Kd.R_drewN | apply Kd.R_drew)); exact HO_8.out) hb); have n1_ := qn101 (g := gb101) hb; have n2_ := qs hb; clear HO_8; clear BK101; clear HB; have HO_8 := n0_; have BK101 := n1_; have HB := n2_; clear n0_ n1_ n2_; (try clear hb)) | ((with_reducible refine gate_builtin (b := .append) (xs := #[.tmp 50, .tmp 52]) rfl ?_); at_builtin; refine Kd.R_append (Kd.int .i64) (w0 := w) w.heap.size rfl (.tmp 50) (.tmp 52) 169 3 (.int .i64 0) 8 rfl Tryd.underlying169 info3 rfl (by decide) (by omega) u8 x8_1 t105 [.int .i64 t105] (fun _ => True) (fun _ => False) rfl rfl ?aP (fun _ hk => hk.elim) ?aF ?aO ?aB ?aS ?aL ?_; (case aP => exact rfl); (case aB => exact qb); (case aF => exact (fun _ _ => trivial)); (case aO => exact (by (with_reducible repeat (first | apply Kd.R_alloc | apply Kd.R_drewN | apply Kd.R_drew)); exact HO_8.out)); (case aS => exact (below_size qb)); (case aL => have := LMc19.out; omega); intro v108 w22 ho hb hg hat; rw [← Ny107.out] at ho; have n0_ := Aside0.mk (blk_grown (g := gb101) (o := .cells #[.int .i64 a0_0, .int .i64 a0_1, .string a0_2, .slice (some ad104) l0_3.length c0_3] 34 (0, 0)) (by (with_reducible repeat (first | refine blk_drewN ?_ _ | refine blk_drew ?_ | refine blk_alloc ?_ _)); exact BK101.out) hg (Kd.R_ne HO_8.out BK101.out (by decide))); have n1_ := Aside0.mk (hb); have n2_ := Aside0.mk (ho); clear BK101; clear HB; clear HO_8; have BK101 := n0_; have HB := n1_; have HO109 := n2_; clear n0_ n1_ n2_; clear ho hb hg hat))
       repeat (go_quiet (first | (go_at_call 103; (with_reducible refine (ih k1 (by have := HK1.out; omega) ((rd_T34 l0_3 x9_1).f0) ((rd_T34 l0_3 x9_1).f1) ((rd_T34 l0_3 x9_1).f2) _ _ ((rd_T34 l0_3 x9_1).f3) _ _ l1 t105 t106 _ ?side1 ?side2 ?side3 ?side4 A17.out).mono ?_); (case side1 => exact qC HR104_3.out); (case side2 => exact HC104_3.out); (case side3 => exact qC HR1.out); (case side4 => exact HC1.out); rintro e w21 ⟨rfl, hb⟩; have n0_ := Aside0.mk (Kd.R_below (by (with_reducible repeat (first | apply Kd.R_alloc | apply Kd.R_drewN | apply Kd.R_drew)); exact HO_8.out) hb); have n1_ := qn101 (g := gb101) hb; have n2_ := qs hb; clear HO_8; clear BK101; clear HB; have HO_8 := n0_; have BK101 := n1_; have HB := n2_; clear n0_ n1_ n2_; (try clear hb)) | ((with_reducible refine gate_builtin (b := .append) (xs := #[.tmp 50, .tmp 52]) rfl ?_); at_builtin; refine Kd.R_append (Kd.int .i64) (w0 := w) w.heap.size rfl (.tmp 50) (.tmp 52) 169 3 (.int .i64 0) 8 rfl Tryd.underlying169 info3 rfl (by decide) (by omega) u8 x8_1 t105 [.int .i64 t105] (fun _ => True) (fun _ => False) rfl rfl ?aP (fun _ hk => hk.elim) ?aF ?aO ?aB ?aS ?aL ?_; (case aP => exact rfl); (case aB => exact qb); (case aF => exact (fun _ _ => trivial)); (case aO => exact (by (with_reducible repeat (first | apply Kd.R_alloc | apply Kd.R_drewN | apply Kd.R_drew)); exact HO_8.out)); (case aS => exact (below_size qb)); (case aL => have := LMc19.out; omega); intro v108 w22 ho hb hg hat; rw [← Ny107.out] at ho; have n0_ := Aside0.mk (blk_grown (g := gb101) (o := .cells #[.int .i64 a0_0, .int .i64 a0_1, .string a0_2, .slice (some ad104) l0_3.length c0_3] 34 (0, 0)) (by (with_reducible repeat (first | refine blk_drewN ?_ _ | refine blk_drew ?_ | refine blk_alloc ?_ _)); exact BK101.out) hg (Kd.R_ne HO_8.out BK101.out (by decide))); have n1_ := Aside0.mk (hb); have n2_ := Aside0.mk (ho); clear BK101; clear HB; clear HO_8; have BK101 := n0_; have HB := n1_; have HO109 := n2_; clear n0_ n1_ n2_; clear ho hb hg hat)); try go_wp2_with (first | (go_at_call 103; (with_reducible refine (ih k1 (by have := HK1.out; omega) ((rd_T34 l0_3 x9_1).f0) ((rd_T34 l0_3 x9_1).f1) ((rd_T34 l0_3 x9_1).f2) _ _ ((rd_T34 l0_3 x9_1).f3) _ _ l1 t105 t106 _ ?side1 ?side2 ?side3 ?side4 A17.out).mono ?_); (case side1 => exact qC HR104_3.out); (case side2 => exact HC104_3.out); (case side3 => exact qC HR1.out); (case side4 => exact HC1.out); rintro e w21 ⟨rfl, hb⟩; have n0_ := Aside0.mk (Kd.R_below (by (with_reducible repeat (first | apply Kd.R_alloc | apply Kd.R_drewN | apply Kd.R_drew)); exact HO_8.out) hb); have n1_ := qn101 (g := gb101) hb; have n2_ := qs hb; clear HO_8; clear BK101; clear HB; have HO_8 := n0_; have BK101 := n1_; have HB := n2_; clear n0_ n1_ n2_; (try clear hb)) | ((with_reducible refine gate_builtin (b := .append) (xs := #[.tmp 50, .tmp 52]) rfl ?_); at_builtin; refine Kd.R_append (Kd.int .i64) (w0 := w) w.heap.size rfl (.tmp 50) (.tmp 52) 169 3 (.int .i64 0) 8 rfl Tryd.underlying169 info3 rfl (by decide) (by omega) u8 x8_1 t105 [.int .i64 t105] (fun _ => True) (fun _ => False) rfl rfl ?aP (fun _ hk => hk.elim) ?aF ?aO ?aB ?aS ?aL ?_; (case aP => exact rfl); (case aB => exact qb); (case aF => exact (fun _ _ => trivial)); (case aO => exact (by (with_reducible repeat (first | apply Kd.R_alloc | apply Kd.R_drewN | apply Kd.R_drew)); exact HO_8.out)); (case aS => exact (below_size qb)); (case aL => have := LMc19.out; omega); intro v108 w22 ho hb hg hat; rw [← Ny107.out] at ho; have n0_ := Aside0.mk (blk_grown (g := gb101) (o := .cells #[.int .i64 a0_0, .int .i64 a0_1, .string a0_2, .slice (some ad104) l0_3.length c0_3] 34 (0, 0)) (by (with_reducible repeat (first | refine blk_drewN ?_ _ | refine blk_drew ?_ | refine blk_alloc ?_ _)); exact BK101.out) hg (Kd.R_ne HO_8.out BK101.out (by decide))); have n1_ := Aside0.mk (hb); have n2_ := Aside0.mk (ho); clear BK101; clear HB; clear HO_8; have BK101 := n0_; have HB := n1_; have HO109 := n2_; clear n0_ n1_ n2_; clear ho hb hg hat)))
       go_roundg k1
       case measure => have := HK1.out; omega
       case rel => exact ⟨(y107), (wrap64 (x9_1 + 1)), qv, H', ⟨by have := HK1.out; omega⟩, ⟨by (with_reducible repeat (first | apply Kd.R_alloc | apply Kd.R_drewN | apply Kd.R_drew)); exact HO109.out⟩, qk101, qB⟩
      rw [if_neg c19] at H
      exact absurd H (by simp)
     rw [if_neg c18] at H
     obtain ⟨c18b0, c18b1⟩ := qd c18
     simp only [Option.some.injEq, Prod.mk.injEq] at H
     obtain ⟨rfl, rfl⟩ := H
     obtain ⟨_, _, _, _, _, _, _, _⟩ := q4 BK101.out
     have p104 : 0 ≤ (x9_1 : Int) := qa
     have q104 : x9_1 < (l0_3.length : Int) := qa
     obtain ⟨ad104, A104_3, c104_3, e104, hx104_0, hx104_1, hx104_2, hx104_3, hl104_3, hi104_3⟩ := at_T34 HR0_3.out x9_1 p104 q104
     cases e104
     replace hx104_0 := qc HB.out hx104_0
     replace hx104_1 := qc HB.out hx104_1
     replace hx104_2 := qc HB.out hx104_2
     replace hx104_3 := qc HB.out hx104_3
     have HR104_3 := Aside0.mk hi104_3
     have HC104_3 := Aside0.mk hl104_3
     clear hi104_3 hl104_3
     replace p104 := eq_true p104
     replace q104 := eq_true q104
     go_wp2_with (first | (go_at_call 103; (with_reducible refine (ih k1 (by have := HK1.out; omega) ((rd_T34 l0_3 x9_1).f0) ((rd_T34 l0_3 x9_1).f1) ((rd_T34 l0_3 x9_1).f2) _ _ ((rd_T34 l0_3 x9_1).f3) _ _ l1 t105 t106 _ ?side1 ?side2 ?side3 ?side4 A17.out).mono ?_); (case side1 => exact qC HR104_3.out); (case side2 => exact HC104_3.out); (case side3 => exact qC HR1.out); (case side4 => exact HC1.out); rintro e w24 ⟨rfl, hb⟩; have n0_ := Aside0.mk (Kd.R_below (by (with_reducible repeat (first | apply Kd.R_alloc | apply Kd.R_drewN | apply Kd.R_drew)); exact HO_8.out) hb); have n1_ := qn101 (g := gb101) hb; have n2_ := qs hb; clear HO_8; clear BK101; clear HB; have HO_8 := n0_; have BK101 := n1_; have HB := n2_; clear n0_ n1_ n2_; (try clear hb)))
     repeat (go_quiet (first | (go_at_call 103; (with_reducible refine (ih k1 (by have := HK1.out; omega) ((rd_T34 l0_3 x9_1).f0) ((rd_T34 l0_3 x9_1).f1) ((rd_T34 l0_3 x9_1).f2) _ _ ((rd_T34 l0_3 x9_1).f3) _ _ l1 t105 t106 _ ?side1 ?side2 ?side3 ?side4 A17.out).mono ?_); (case side1 => exact qC HR104_3.out); (case side2 => exact HC104_3.out); (case side3 => exact qC HR1.out); (case side4 => exact HC1.out); rintro e w24 ⟨rfl, hb⟩; have n0_ := Aside0.mk (Kd.R_below (by (with_reducible repeat (first | apply Kd.R_alloc | apply Kd.R_drewN | apply Kd.R_drew)); exact HO_8.out) hb); have n1_ := qn101 (g := gb101) hb; have n2_ := qs hb; clear HO_8; clear BK101; clear HB; have HO_8 := n0_; have BK101 := n1_; have HB := n2_; clear n0_ n1_ n2_; (try clear hb))); try go_wp2_with (first | (go_at_call 103; (with_reducible refine (ih k1 (by have := HK1.out; omega) ((rd_T34 l0_3 x9_1).f0) ((rd_T34 l0_3 x9_1).f1) ((rd_T34 l0_3 x9_1).f2) _ _ ((rd_T34 l0_3 x9_1).f3) _ _ l1 t105 t106 _ ?side1 ?side2 ?side3 ?side4 A17.out).mono ?_); (case side1 => exact qC HR104_3.out); (case side2 => exact HC104_3.out); (case side3 => exact qC HR1.out); (case side4 => exact HC1.out); rintro e w24 ⟨rfl, hb⟩; have n0_ := Aside0.mk (Kd.R_below (by (with_reducible repeat (first | apply Kd.R_alloc | apply Kd.R_drewN | apply Kd.R_drew)); exact HO_8.out) hb); have n1_ := qn101 (g := gb101) hb; have n2_ := qs hb; clear HO_8; clear BK101; clear HB; have HO_8 := n0_; have BK101 := n1_; have HB := n2_; clear n0_ n1_ n2_; (try clear hb))))
     go_ret2
     exact qr
    rw [if_neg c16] at H
    exact absurd H (by simp)
   rw [if_neg c15] at H
   have c15b0 : decide (x9_1 < (l0_3.length : Int)) = false := decide_eq_false c15
   clear c15
   by_cases c25 : a0_0 = 2
   ·rw [if_pos c25] at H
    obtain ⟨c25b0, c25b1⟩ := qe c25
    clear c25
    by_cases c26 : 0 < (x8_1.length : Int)
    ·rw [if_pos c26] at H
     have c26b0 : decide (0 < (x8_1.length : Int)) = true := decide_eq_true c26
     have c26b1 : decide (0 < x8_1.length) = true := decide_eq_true (by omega)
     clear c26
     replace H := qi H
     obtain ⟨⟨t111, t112⟩, A27, H⟩ := H
     replace H : (some (t111, t112)) = some (r1, r2) := H
     simp only [Option.some.injEq, Prod.mk.injEq] at H
     obtain ⟨rfl, rfl⟩ := H
     obtain ⟨_, _, _, _, _, _, _, _⟩ := q4 BK101.out
     obtain ⟨Ao29, co29, eo29⟩ := Kd.R_slice HO_8.out
     subst eo29
     have p110 : 0 ≤ (0 : Int) := (by omega)
     have q110 : 0 < (x8_1.length : Int) := qa
     obtain ⟨ad110, e110, hx110_0⟩ := Kd.at_int (Kd.R_reads' HO_8.out).2.2 0 p110 q110
     cases e110
     have qi110 : (0 < x8_1.length) = True := eq_true (by omega)
     (try rw [show ((0 : Int)).toNat = 0 from rfl] at hx110_0)
     (try rw [Addr.add_zero'] at hx110_0)
     replace p110 := eq_true p110
     replace q110 := eq_true q110
     go_wp2_with (first | (go_at_call 136; (with_reducible refine (malthouseref02_Two.calls k1 5 0 (rd x8_1 0) t111 t112 _ A27.out).mono ?_); rintro e w' ⟨rfl, ⟨nd, rfl⟩⟩; (try first | exact qw | exact ⟨rfl, _, Eq.trans (World.drewN_drewN _ _ _) (congrArg (World.drewN _) (Nat.add_assoc _ _ _))⟩)))
     repeat (go_quiet (first | (go_at_call 136; (with_reducible refine (malthouseref02_Two.calls k1 5 0 (rd x8_1 0) t111 t112 _ A27.out).mono ?_); rintro e w' ⟨rfl, ⟨nd, rfl⟩⟩; (try first | exact qw | exact ⟨rfl, _, Eq.trans (World.drewN_drewN _ _ _) (congrArg (World.drewN _) (Nat.add_assoc _ _ _))⟩))); try go_wp2_with (first | (go_at_call 136; (with_reducible refine (malthouseref02_Two.calls k1 5 0 (rd x8_1 0) t111 t112 _ A27.out).mono ?_); rintro e w' ⟨rfl, ⟨nd, rfl⟩⟩; (try first | exact qw | exact ⟨rfl, _, Eq.trans (World.drewN_drewN _ _ _) (congrArg (World.drewN _) (Nat.add_assoc _ _ _))⟩))))
     go_ret2
     exact qr
    rw [if_neg c26] at H
    exact absurd H (by simp)
   rw [if_neg c25] at H
   obtain ⟨c25b0, c25b1⟩ := qd c25
   by_cases c30 : a0_0 = 3
   ·rw [if_pos c30] at H
    obtain ⟨c30b0, c30b1⟩ := qe c30
    clear c30
    by_cases c31 : 0 < (x8_1.length : Int)
    ·rw [if_pos c31] at H
     have c31b0 : decide (0 < (x8_1.length : Int)) = true := decide_eq_true c31
     have c31b1 : decide (0 < x8_1.length) = true := decide_eq_true (by omega)
     clear c31
     replace H := qi H
     obtain ⟨t114, A32, H⟩ := H
     simp only [Option.some.injEq, Prod.mk.injEq] at H
     obtain ⟨rfl, rfl⟩ := H
     obtain ⟨_, _, _, _, _, _, _, _⟩ := q4 BK101.out
     obtain ⟨Ao34, co34, eo34⟩ := Kd.R_slice HO_8.out
     subst eo34
     have p113 : 0 ≤ (0 : Int) := (by omega)
     have q113 : 0 < (x8_1.length : Int) := qa
     obtain ⟨ad113, e113, hx113_0⟩ := Kd.at_int (Kd.R_reads' HO_8.out).2.2 0 p113 q113
     cases e113
     have qi113 : (0 < x8_1.length) = True := eq_true (by omega)
     (try rw [show ((0 : Int)).toNat = 0 from rfl] at hx113_0)
     (try rw [Addr.add_zero'] at hx113_0)
     replace p113 := eq_true p113
     replace q113 := eq_true q113
     go_wp2_with (first | (go_at_call 137; (with_reducible refine (malthouseref02_truth.calls ((rd x8_1 0) == 0) t114 _ A32.out).mono ?_); rintro e w' ⟨rfl, ⟨nd, rfl⟩⟩; (try first | exact qw | exact ⟨rfl, _, Eq.trans (World.drewN_drewN _ _ _) (congrArg (World.drewN _) (Nat.add_assoc _ _ _))⟩)))
     repeat (go_quiet (first | (go_at_call 137; (with_reducible refine (malthouseref02_truth.calls ((rd x8_1 0) == 0) t114 _ A32.out).mono ?_); rintro e w' ⟨rfl, ⟨nd, rfl⟩⟩; (try first | exact qw | exact ⟨rfl, _, Eq.trans (World.drewN_drewN _ _ _) (congrArg (World.drewN _) (Nat.add_assoc _ _ _))⟩))); try go_wp2_with (first | (go_at_call 137; (with_reducible refine (malthouseref02_truth.calls ((rd x8_1 0) == 0) t114 _ A32.out).mono ?_); rintro e w' ⟨rfl, ⟨nd, rfl⟩⟩; (try first | exact qw | exact ⟨rfl, _, Eq.trans (World.drewN_drewN _ _ _) (congrArg (World.drewN _) (Nat.add_assoc _ _ _))⟩))))
     go_ret2
     exact qr
    rw [if_neg c31] at H
    exact absurd H (by simp)
   rw [if_neg c30] at H
   obtain ⟨c30b0, c30b1⟩ := qd c30
   by_cases c35 : 0 < (x8_1.length : Int)
   ·rw [if_pos c35] at H
    have c35b0 : decide (0 < (x8_1.length : Int)) = true := decide_eq_true c35
    have c35b1 : decide (0 < x8_1.length) = true := decide_eq_true (by omega)
    clear c35
    by_cases c36 : 1 < (x8_1.length : Int)
    ·rw [if_pos c36] at H
     have c36b0 : decide (1 < (x8_1.length : Int)) = true := decide_eq_true c36
     have c36b1 : decide (1 < x8_1.length) = true := decide_eq_true (by omega)
     clear c36
     replace H := qi H
     obtain ⟨⟨t117, t118⟩, A37, H⟩ := H
     replace H : (some (t117, t118)) = some (r1, r2) := H
     simp only [Option.some.injEq, Prod.mk.injEq] at H
     obtain ⟨rfl, rfl⟩ := H
     obtain ⟨_, _, _, _, _, _, _, _⟩ := q4 BK101.out
     obtain ⟨Ao39, co39, eo39⟩ := Kd.R_slice HO_8.out
     subst eo39
     have p115 : 0 ≤ (0 : Int) := (by omega)
     have q115 : 0 < (x8_1.length : Int) := qa
     obtain ⟨ad115, e115, hx115_0⟩ := Kd.at_int (Kd.R_reads' HO_8.out).2.2 0 p115 q115
     cases e115
     have qi115 : (0 < x8_1.length) = True := eq_true (by omega)
     (try rw [show ((0 : Int)).toNat = 0 from rfl] at hx115_0)
     (try rw [Addr.add_zero'] at hx115_0)
     replace p115 := eq_true p115
     replace q115 := eq_true q115
     have p116 : 0 ≤ (1 : Int) := (by omega)
     have q116 : 1 < (x8_1.length : Int) := qa
     obtain ⟨ad116, e116, hx116_0⟩ := Kd.at_int (Kd.R_reads' HO_8.out).2.2 1 p116 q116
     obtain rfl : ad115 = ad116 := (by injection e116)
     (try simp only [show (1 : Int).toNat = 1 from rfl, Nat.reduceMul, Nat.reduceEqDiff, Go.Addr.add, ↓reduceIte] at hx116_0)
     have qi116 : (1 < x8_1.length) = True := eq_true (by omega)
     (try rw [show ((1 : Int)).toNat = 1 from rfl] at hx116_0)
     replace p116 := eq_true p116
     replace q116 := eq_true q116
     go_wp2_with (first | (go_at_call 136; (with_reducible refine (malthouseref02_Two.calls k1 a0_0 (rd x8_1 0) (rd x8_1 1) t117 t118 _ A37.out).mono ?_); rintro e w' ⟨rfl, ⟨nd, rfl⟩⟩; (try first | exact qw | exact ⟨rfl, _, Eq.trans (World.drewN_drewN _ _ _) (congrArg (World.drewN _) (Nat.add_assoc _ _ _))⟩)))
     repeat (go_quiet (first | (go_at_call 136; (with_reducible refine (malthouseref02_Two.calls k1 a0_0 (rd x8_1 0) (rd x8_1 1) t117 t118 _ A37.out).mono ?_); rintro e w' ⟨rfl, ⟨nd, rfl⟩⟩; (try first | exact qw | exact ⟨rfl, _, Eq.trans (World.drewN_drewN _ _ _) (congrArg (World.drewN _) (Nat.add_assoc _ _ _))⟩))); try go_wp2_with (first | (go_at_call 136; (with_reducible refine (malthouseref02_Two.calls k1 a0_0 (rd x8_1 0) (rd x8_1 1) t117 t118 _ A37.out).mono ?_); rintro e w' ⟨rfl, ⟨nd, rfl⟩⟩; (try first | exact qw | exact ⟨rfl, _, Eq.trans (World.drewN_drewN _ _ _) (congrArg (World.drewN _) (Nat.add_assoc _ _ _))⟩))))
     go_ret2
     exact qr
    rw [if_neg c36] at H
    exact absurd H (by simp)
   rw [if_neg c35] at H
   exact absurd H (by simp)
def malthouseref02_Eval.f (k : Nat) (a0_0 : Int) (a0_1 : Int) (a0_2 : ByteArray) (l0_3 : List (S34)) (l1 : List (S69)) : Option (Int × Int) := (malthouseref02_May.f k a0_0 a0_1 a0_2 l0_3).bind fun t102 => (if t102 = true then ((malthouseref02_reckon.f k a0_0 a0_1 a0_2 l0_3 l1).bind fun bt103 => (some (bt103.1, bt103.2))) else (some (0, 1)))
set_option maxHeartbeats 8000000 in
set_option maxRecDepth 100000 in
theorem malthouseref02_Eval.calls (k : Nat) (a0_0 : Int) (a0_1 : Int) (a0_2 : ByteArray) (A0_3 : Option Addr) (c0_3 : Nat) (l0_3 : List (S34)) (A1 : Option Addr) (c1 : Nat) (l1 : List (S69)) (r1 : Int) (r2 : Int) (w : World) (hr0_3 : Kd.C k34 w A0_3 l0_3.length l0_3) (hc0_3 : l0_3.length ≤ c0_3) (hr1 : Kd.C k69 w A1 l1.length l1) (hc1 : l1.length ≤ c1) (h : malthouseref02_Eval.f k a0_0 a0_1 a0_2 l0_3 l1 = some (r1, r2)) :
  Calls Tryd.prog 72 #[.agg #[.int .i64 a0_0, .int .i64 a0_1, .string a0_2, .slice A0_3 l0_3.length c0_3], .slice A1 l1.length c1] w fun e w' => e = .returned (.tuple #[.int .i64 r1, .int .i64 r2]) ∧ Below w.heap.size w w' := by
 have hu34 := Tryd.underlying34
 have HR0_3 := Aside0.mk hr0_3
 have HC0_3 := Aside0.mk hc0_3
 clear hr0_3 hc0_3
 have HR1 := Aside0.mk hr1
 have HC1 := Aside0.mk hc1
 clear hr1 hc1
 have HB := Aside0.mk (Below.refl w.heap.size w)
 have H : ((malthouseref02_May.f k a0_0 a0_1 a0_2 l0_3).bind fun t102 => (if t102 = true then ((malthouseref02_reckon.f k a0_0 a0_1 a0_2 l0_3 l1).bind fun bt103 => (some (bt103.1, bt103.2))) else (some (0, 1)))) = some (r1, r2) := h
 clear h
 replace H := qi H
 obtain ⟨t102, A3, H⟩ := H
 by_cases c4 : t102 = true
 ·subst c4
  rw [if_pos rfl] at H
  replace H := qi H
  obtain ⟨⟨t103, t104⟩, A5, H⟩ := H
  replace H : (some (t103, t104)) = some (r1, r2) := H
  simp only [Option.some.injEq, Prod.mk.injEq] at H
  obtain ⟨rfl, rfl⟩ := H
  go_enter Tryd.func72, Tryd.ntmps72
  go_wp2_with (first | ((with_reducible refine gate_dst (N := 2) rfl ?_); refine box_event ?hg (N := 2) ?hd (cs := #[.int .i64 a0_0, .int .i64 a0_1, .string a0_2, .slice A0_3 l0_3.length c0_3]) (t := 34) ?hr ?_; (case hd => rfl); (case hg => rfl); (case hr => first | (go_simp; done) | (go_simp; rfl)); intro gb101 hg w6 hbox hb; have n0_ := qs hb; have n1_ := Aside0.mk (hbox); have n2_ := Aside0.mk ((by rw [hg]; exact (below_size qb) : w.heap.size ≤ gb101)); have n3_ := Aside0.mk ((by rw [hg]; exact (below_size qb) : w.heap.size ≤ gb101)); clear HB; have HB := n0_; have BK101 := n1_; have GW101 := n2_; have GE101 := n3_; clear n0_ n1_ n2_ n3_; clear hb hbox hg; obtain ⟨_, _, _, _, _, _, _, _⟩ := q4 BK101.out) | ((with_reducible refine gate_callee (f := 76) rfl ?_); refine goesL_ (some 8) rfl rfl Tryd.func76 (by kernel_rfl) rfl #[.agg #[.int .i64 a0_0, .int .i64 a0_1, .string a0_2, .slice A0_3 l0_3.length c0_3]] rfl qm ?_; (with_reducible refine (malthouseref02_May.calls k a0_0 a0_1 a0_2 _ _ l0_3 true _ ?side1 ?side2 A3.out).mono ?_); (case side1 => exact qC HR0_3.out); (case side2 => exact HC0_3.out); rintro e w8 ⟨rfl, hb⟩; refine ⟨_, rfl, ?_⟩; have n0_ := qn101 (g := gb101) hb; have n1_ := qs hb; clear BK101; clear HB; have BK101 := n0_; have HB := n1_; clear n0_ n1_; (try clear hb); obtain ⟨_, _, _, _, _, _, _, _⟩ := q4 BK101.out) | ((with_reducible refine gate_callee (f := 103) rfl ?_); refine goesL_ (some 13) rfl rfl Tryd.func103 (by kernel_rfl) rfl #[.agg #[.int .i64 a0_0, .int .i64 a0_1, .string a0_2, .slice A0_3 l0_3.length c0_3], .slice A1 l1.length c1] rfl qm ?_; (with_reducible refine (malthouseref02_reckon.calls k a0_0 a0_1 a0_2 _ _ l0_3 _ _ l1 t103 t104 _ ?side1 ?side2 ?side3 ?side4 A5.out).mono ?_); (case side1 => exact qC HR0_3.out); (case side2 => exact HC0_3.out); (case side3 => exact qC HR1.out); (case side4 => exact HC1.out); rintro e w10 ⟨rfl, hb⟩; refine ⟨_, rfl, ?_⟩; have n0_ := qn101 (g := gb101) hb; have n1_ := qs hb; clear BK101; clear HB; have BK101 := n0_; have HB := n1_; clear n0_ n1_; (try clear hb)))
  go_ret2
  exact qr
 replace c4 := Bool.eq_false_iff.mpr c4
 subst c4
 rw [if_neg qf] at H
 simp only [Option.some.injEq, Prod.mk.injEq] at H
 obtain ⟨rfl, rfl⟩ := H
 go_enter Tryd.func72, Tryd.ntmps72
 go_wp2_with (first | ((with_reducible refine gate_dst (N := 2) rfl ?_); refine box_event ?hg (N := 2) ?hd (cs := #[.int .i64 a0_0, .int .i64 a0_1, .string a0_2, .slice A0_3 l0_3.length c0_3]) (t := 34) ?hr ?_; (case hd => rfl); (case hg => rfl); (case hr => first | (go_simp; done) | (go_simp; rfl)); intro gb101 hg w11 hbox hb; have n0_ := qs hb; have n1_ := Aside0.mk (hbox); have n2_ := Aside0.mk ((by rw [hg]; exact (below_size qb) : w.heap.size ≤ gb101)); have n3_ := Aside0.mk ((by rw [hg]; exact (below_size qb) : w.heap.size ≤ gb101)); clear HB; have HB := n0_; have BK101 := n1_; have GW101 := n2_; have GE101 := n3_; clear n0_ n1_ n2_ n3_; clear hb hbox hg; obtain ⟨_, _, _, _, _, _, _, _⟩ := q4 BK101.out) | ((with_reducible refine gate_callee (f := 76) rfl ?_); refine goesL_ (some 8) rfl rfl Tryd.func76 (by kernel_rfl) rfl #[.agg #[.int .i64 a0_0, .int .i64 a0_1, .string a0_2, .slice A0_3 l0_3.length c0_3]] rfl qm ?_; (with_reducible refine (malthouseref02_May.calls k a0_0 a0_1 a0_2 _ _ l0_3 false _ ?side1 ?side2 A3.out).mono ?_); (case side1 => exact qC HR0_3.out); (case side2 => exact HC0_3.out); rintro e w13 ⟨rfl, hb⟩; refine ⟨_, rfl, ?_⟩; have n0_ := qn101 (g := gb101) hb; have n1_ := qs hb; clear BK101; clear HB; have BK101 := n0_; have HB := n1_; clear n0_ n1_; (try clear hb)))
 go_ret2
 exact qr
end Go.Proofs.YtiaccdaeomaogaaDoor.F
