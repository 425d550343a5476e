/- Texts of one claim, slimmed and merged by slim.py. -/
import Derived.Test.YtiaccdaeomaogaaDoorA4
import Derived.Test.YtiaccdaeomaogaaDoorA6
import Derived.Test.YtiaccdaeomaogaaDoorA9
import Derived.Test.YtiaccdaeomaogaaDoorA10
namespace Go.Proofs.YtiaccdaeomaogaaDoor.F
open Go.RowKit Go.Proofs.YtiaccdaeomaogaaDoorW.PrintWords Go.Proofs.YtiaccdaeomaogaaDoorW.PrintLast Go.Proofs.YtiaccdaeomaogaaDoorW.PrintMore
attribute [local go_sem] max2_int min2_int max_two min_two max_three min_three max_four min_four   -- for this text's walks alone
set_option linter.unusedVariables false
set_option linter.unusedSimpArgs false
def expr_reckon.f : Nat → Int → Int → ByteArray → List (S34) → List (S69) → Option (Int × Int)
  | 0, _, _, _, _, _ => none
  | k + 1, a0_0, a0_1, a0_2, l0_3, l1 => if a0_0 = 0 then (some (a0_1, 0)) else (if a0_0 = 1 then ((expr_cell.f l1 a0_2).bind fun bt102 => (if bt102.2 = true then (some (bt102.1, 0)) else (some (0, 21)))) else (if 0 < (l0_3.length : Int) then ((expr_reckon.f k ((rd_T34 l0_3 0).f0) ((rd_T34 l0_3 0).f1) ((rd_T34 l0_3 0).f2) ((rd_T34 l0_3 0).f3) l1).bind fun bt105 => (if bt105.2 = 0 then (if a0_0 = 2 then ((expr_minus.f 0 bt105.1).bind fun bt107 => (some (bt107.1, bt107.2))) else (if a0_0 = 3 then ((expr_truth.f (bt105.1 == 0)).bind fun t109 => (some (t109, 0))) else (if 1 < (l0_3.length : Int) then ((expr_reckon.f k ((rd_T34 l0_3 1).f0) ((rd_T34 l0_3 1).f1) ((rd_T34 l0_3 1).f2) ((rd_T34 l0_3 1).f3) l1).bind fun bt111 => (if bt111.2 = 0 then ((expr_two.f k a0_0 bt105.1 bt111.1).bind fun bt113 => (some (bt113.1, bt113.2))) else (some (0, bt111.2)))) else (none)))) else (some (0, bt105.2)))) else (none)))
theorem expr_reckon.mono_l : ∀ k, (∀ y0 y1 y2 y3 y4, LeO (expr_reckon.f k y0 y1 y2 y3 y4) (expr_reckon.f (k + 1) y0 y1 y2 y3 y4))
  | 0 => fun _ _ _ _ _ r h => by simp [expr_reckon.f] at h
  | k + 1 => by
    have ih0 := expr_reckon.mono_l k
    intro y0 y1 y2 y3 y4
    unfold expr_reckon.f
    repeat' first
    | (with_reducible exact ih0 _ _ _ _ _)
    | (with_reducible exact expr_two.mono _ _ _ _)
    | (with_reducible exact LeO.refl _)
    | (with_reducible exact LeO.none _)
    | (with_reducible refine LeO.ite ?_ ?_)
    | (with_reducible refine LeO.bind ?_ (fun _ => ?_))
    | exact ih0 _ _ _ _ _
    | exact expr_two.mono _ _ _ _
    | exact LeO.none _
    | refine LeO.ite ?_ ?_
    | refine LeO.bind ?_ (fun _ => ?_)
theorem expr_reckon.mono : ∀ a0 a1 a2 a3 a4 k, LeO (expr_reckon.f k a0 a1 a2 a3 a4) (expr_reckon.f (k + 1) a0 a1 a2 a3 a4) := by
  intro a0 a1 a2 a3 a4 k
  have ih0 := expr_reckon.mono_l k
  exact ih0 a0 a1 a2 a3 a4
set_option maxHeartbeats 8000000 in
set_option maxRecDepth 100000 in
theorem expr_reckon.calls (k : Nat) : ∀ (a0_0 : Int) (a0_1 : Int) (a0_2 : ByteArray) (A0_3 : Option Addr) (c0_3 : Nat) (l0_3 : List (S34)) (A1 : Option Addr) (c1 : Nat) (l1 : List (S69)) (r1 : Int) (r2 : Int) (w : World) (hr0_3 : Kd.C k34 w A0_3 l0_3.length l0_3) (hc0_3 : l0_3.length ≤ c0_3) (hr1 : Kd.C k69 w A1 l1.length l1) (hc1 : l1.length ≤ c1) (h : expr_reckon.f k a0_0 a0_1 a0_2 l0_3 l1 = some (r1, r2)),
  Calls Tryd.prog 64 #[.agg #[.int .i64 a0_0, .int .i64 a0_1, .string a0_2, .slice A0_3 l0_3.length c0_3], .slice A1 l1.length c1] w fun e w' => e = .returned (.tuple #[.int .i64 r1, .int .i64 r2]) ∧ Below w.heap.size w w' := by
 induction k using Nat.strongRecOn with
 | _ k ih =>
 intro a0_0 a0_1 a0_2 A0_3 c0_3 l0_3 A1 c1 l1 r1 r2 w hr0_3 hc0_3 hr1 hc1 h
 cases k with
 | zero => exact absurd h (by simp [expr_reckon.f])
 | succ k =>
 simp only [expr_reckon.f] at h
 have hu34 := Tryd.underlying34
 have HR0_3 := Aside0.mk hr0_3
 have HC0_3 := Aside0.mk hc0_3
 clear hr0_3 hc0_3
 have HR1 := Aside0.mk hr1
 have HC1 := Aside0.mk hc1
 clear hr1 hc1
 have HB := Aside0.mk (Below.refl w.heap.size w)
 have H : (if a0_0 = 0 then (some (a0_1, 0)) else (if a0_0 = 1 then ((expr_cell.f l1 a0_2).bind fun bt102 => (if bt102.2 = true then (some (bt102.1, 0)) else (some (0, 21)))) else (if 0 < (l0_3.length : Int) then ((expr_reckon.f k ((rd_T34 l0_3 0).f0) ((rd_T34 l0_3 0).f1) ((rd_T34 l0_3 0).f2) ((rd_T34 l0_3 0).f3) l1).bind fun bt105 => (if bt105.2 = 0 then (if a0_0 = 2 then ((expr_minus.f 0 bt105.1).bind fun bt107 => (some (bt107.1, bt107.2))) else (if a0_0 = 3 then ((expr_truth.f (bt105.1 == 0)).bind fun t109 => (some (t109, 0))) else (if 1 < (l0_3.length : Int) then ((expr_reckon.f k ((rd_T34 l0_3 1).f0) ((rd_T34 l0_3 1).f1) ((rd_T34 l0_3 1).f2) ((rd_T34 l0_3 1).f3) l1).bind fun bt111 => (if bt111.2 = 0 then ((expr_two.f k a0_0 bt105.1 bt111.1).bind fun bt113 => (some (bt113.1, bt113.2))) else (some (0, bt111.2)))) else (none)))) else (some (0, bt105.2)))) else (none)))) = some (r1, r2) := h
 clear h
 by_cases c3 : a0_0 = 0
 ·rw [if_pos c3] at H
  obtain ⟨c3b0, c3b1⟩ := qe c3
  clear c3
  simp only [Option.some.injEq, Prod.mk.injEq] at H
  obtain ⟨rfl, rfl⟩ := H
  go_enter Tryd.func64, Tryd.ntmps64
  go_wp2_with (first | ((with_reducible refine gate_dst (N := 2) rfl ?_); refine box_event ?hg (N := 2) ?hd (cs := #[.int .i64 a0_0, .int .i64 a0_1, .string a0_2, .slice A0_3 l0_3.length c0_3]) (t := 34) ?hr ?_; (case hd => rfl); (case hg => rfl); (case hr => first | (go_simp; done) | (go_simp; rfl)); intro gb101 hg w4 hbox hb; have n0_ := qs hb; have n1_ := Aside0.mk (hbox); have n2_ := Aside0.mk ((by rw [hg]; exact (below_size qb) : w.heap.size ≤ gb101)); have n3_ := Aside0.mk ((by rw [hg]; exact (below_size qb) : w.heap.size ≤ gb101)); clear HB; have HB := n0_; have BK101 := n1_; have GW101 := n2_; have GE101 := n3_; clear n0_ n1_ n2_ n3_; clear hb hbox hg; obtain ⟨_, _, _, _, _, _, _, _⟩ := q4 BK101.out))
  go_ret2
  exact qr
 rw [if_neg c3] at H
 obtain ⟨c3b0, c3b1⟩ := qd c3
 by_cases c6 : a0_0 = 1
 ·rw [if_pos c6] at H
  obtain ⟨c6b0, c6b1⟩ := qe c6
  clear c6
  replace H := qi H
  obtain ⟨⟨t102, t103⟩, A7, H⟩ := H
  replace H : (if t103 = true then (some (t102, 0)) else (some (0, 21))) = some (r1, r2) := H
  by_cases c8 : t103 = true
  ·subst c8
   rw [if_pos rfl] at H
   simp only [Option.some.injEq, Prod.mk.injEq] at H
   obtain ⟨rfl, rfl⟩ := H
   go_enter Tryd.func64, Tryd.ntmps64
   go_wp2_with (first | ((with_reducible refine gate_dst (N := 2) rfl ?_); refine box_event ?hg (N := 2) ?hd (cs := #[.int .i64 a0_0, .int .i64 a0_1, .string a0_2, .slice A0_3 l0_3.length c0_3]) (t := 34) ?hr ?_; (case hd => rfl); (case hg => rfl); (case hr => first | (go_simp; done) | (go_simp; rfl)); intro gb101 hg w9 hbox hb; have n0_ := qs hb; have n1_ := Aside0.mk (hbox); have n2_ := Aside0.mk ((by rw [hg]; exact (below_size qb) : w.heap.size ≤ gb101)); have n3_ := Aside0.mk ((by rw [hg]; exact (below_size qb) : w.heap.size ≤ gb101)); clear HB; have HB := n0_; have BK101 := n1_; have GW101 := n2_; have GE101 := n3_; clear n0_ n1_ n2_ n3_; clear hb hbox hg; obtain ⟨_, _, _, _, _, _, _, _⟩ := q4 BK101.out) | ((with_reducible refine gate_callee (f := 97) rfl ?_); refine goesL_ (some 23) rfl rfl Tryd.func97 (by kernel_rfl) rfl #[.slice A1 l1.length c1, .string a0_2] rfl qm ?_; (with_reducible refine (expr_cell.calls _ _ l1 a0_2 t102 true _ ?side1 ?side2 A7.out).mono ?_); (case side1 => exact qC HR1.out); (case side2 => exact HC1.out); rintro e w11 ⟨rfl, hb⟩; refine ⟨_, rfl, ?_⟩; have n0_ := qn101 (g := gb101) hb; have n1_ := qs hb; clear BK101; clear HB; have BK101 := n0_; have HB := n1_; clear n0_ n1_; (try clear hb)))
   go_ret2
   exact qr
  replace c8 := Bool.eq_false_iff.mpr c8
  subst c8
  rw [if_neg qf] at H
  simp only [Option.some.injEq, Prod.mk.injEq] at H
  obtain ⟨rfl, rfl⟩ := H
  go_enter Tryd.func64, Tryd.ntmps64
  go_wp2_with (first | ((with_reducible refine gate_dst (N := 2) rfl ?_); refine box_event ?hg (N := 2) ?hd (cs := #[.int .i64 a0_0, .int .i64 a0_1, .string a0_2, .slice A0_3 l0_3.length c0_3]) (t := 34) ?hr ?_; (case hd => rfl); (case hg => rfl); (case hr => first | (go_simp; done) | (go_simp; rfl)); intro gb101 hg w12 hbox hb; have n0_ := qs hb; have n1_ := Aside0.mk (hbox); have n2_ := Aside0.mk ((by rw [hg]; exact (below_size qb) : w.heap.size ≤ gb101)); have n3_ := Aside0.mk ((by rw [hg]; exact (below_size qb) : w.heap.size ≤ gb101)); clear HB; have HB := n0_; have BK101 := n1_; have GW101 := n2_; have GE101 := n3_; clear n0_ n1_ n2_ n3_; clear hb hbox hg; obtain ⟨_, _, _, _, _, _, _, _⟩ := q4 BK101.out) | ((with_reducible refine gate_callee (f := 97) rfl ?_); refine goesL_ (some 23) rfl rfl Tryd.func97 (by kernel_rfl) rfl #[.slice A1 l1.length c1, .string a0_2] rfl qm ?_; (with_reducible refine (expr_cell.calls _ _ l1 a0_2 t102 false _ ?side1 ?side2 A7.out).mono ?_); (case side1 => exact qC HR1.out); (case side2 => exact HC1.out); rintro e w14 ⟨rfl, hb⟩; refine ⟨_, rfl, ?_⟩; have n0_ := qn101 (g := gb101) hb; have n1_ := qs hb; clear BK101; clear HB; have BK101 := n0_; have HB := n1_; clear n0_ n1_; (try clear hb)))
  go_ret2
  exact qr
 rw [if_neg c6] at H
 obtain ⟨c6b0, c6b1⟩ := qd c6
 by_cases c15 : 0 < (l0_3.length : Int)
 ·rw [if_pos c15] at H
  have c15b0 : decide (0 < (l0_3.length : Int)) = true := decide_eq_true c15
  have c15b1 : decide (0 < l0_3.length) = true := decide_eq_true (by omega)
  clear c15
  replace H := qi H
  obtain ⟨⟨t105, t106⟩, A16, H⟩ := H
  replace H : (if t106 = 0 then (if a0_0 = 2 then ((expr_minus.f 0 t105).bind fun bt107 => (some (bt107.1, bt107.2))) else (if a0_0 = 3 then ((expr_truth.f (t105 == 0)).bind fun t109 => (some (t109, 0))) else (if 1 < (l0_3.length : Int) then ((expr_reckon.f k ((rd_T34 l0_3 1).f0) ((rd_T34 l0_3 1).f1) ((rd_T34 l0_3 1).f2) ((rd_T34 l0_3 1).f3) l1).bind fun bt111 => (if bt111.2 = 0 then ((expr_two.f k a0_0 t105 bt111.1).bind fun bt113 => (some (bt113.1, bt113.2))) else (some (0, bt111.2)))) else (none)))) else (some (0, t106))) = some (r1, r2) := H
  by_cases c17 : t106 = 0
  ·rw [if_pos c17] at H
   obtain ⟨c17b0, c17b1⟩ := qe c17
   clear c17
   by_cases c18 : a0_0 = 2
   ·rw [if_pos c18] at H
    obtain ⟨c18b0, c18b1⟩ := qe c18
    clear c18
    replace H := qi H
    obtain ⟨⟨t107, t108⟩, A19, H⟩ := H
    replace H : (some (t107, t108)) = some (r1, r2) := H
    simp only [Option.some.injEq, Prod.mk.injEq] at H
    obtain ⟨rfl, rfl⟩ := H
    go_enter Tryd.func64, Tryd.ntmps64
    go_wp2_with (first | ((with_reducible refine gate_dst (N := 2) rfl ?_); refine box_event ?hg (N := 2) ?hd (cs := #[.int .i64 a0_0, .int .i64 a0_1, .string a0_2, .slice A0_3 l0_3.length c0_3]) (t := 34) ?hr ?_; (case hd => rfl); (case hg => rfl); (case hr => first | (go_simp; done) | (go_simp; rfl)); intro gb101 hg w20 hbox hb; have n0_ := qs hb; have n1_ := Aside0.mk (hbox); have n2_ := Aside0.mk ((by rw [hg]; exact (below_size qb) : w.heap.size ≤ gb101)); have n3_ := Aside0.mk ((by rw [hg]; exact (below_size qb) : w.heap.size ≤ gb101)); clear HB; have HB := n0_; have BK101 := n1_; have GW101 := n2_; have GE101 := n3_; clear n0_ n1_ n2_ n3_; clear hb hbox hg; obtain ⟨_, _, _, _, _, _, _, _⟩ := q4 BK101.out; have p104 : 0 ≤ (0 : Int) := (by omega); have q104 : 0 < (l0_3.length : Int) := qa; obtain ⟨ad104, A104_3, c104_3, e104, hx104_0, hx104_1, hx104_2, hx104_3, hl104_3, hi104_3⟩ := at_T34 HR0_3.out 0 p104 q104; cases e104; have qi104 : (0 < l0_3.length) = True := eq_true (by omega); (try rw [show ((0 : Int)).toNat = 0 from rfl] at hx104_0); (try rw [show 0 * 4 = 0 from rfl] at hx104_0); (try rw [Addr.add_zero'] at hx104_0); (try rw [show ((0 : Int)).toNat = 0 from rfl] at hx104_1); (try rw [show 0 * 4 = 0 from rfl] at hx104_1); (try rw [Addr.add_zero'] at hx104_1); (try rw [show ((0 : Int)).toNat = 0 from rfl] at hx104_2); (try rw [show 0 * 4 = 0 from rfl] at hx104_2); (try rw [Addr.add_zero'] at hx104_2); (try rw [show ((0 : Int)).toNat = 0 from rfl] at hx104_3); (try rw [show 0 * 4 = 0 from rfl] at hx104_3); (try rw [Addr.add_zero'] at hx104_3); replace hx104_0 := qc HB.out hx104_0; replace hx104_1 := qc HB.out hx104_1; replace hx104_2 := qc HB.out hx104_2; replace hx104_3 := qc HB.out hx104_3; have HR104_3 := Aside0.mk hi104_3; have HC104_3 := Aside0.mk hl104_3; clear hi104_3 hl104_3; replace p104 := eq_true p104; replace q104 := eq_true q104) | ((with_reducible refine gate_callee (f := 64) rfl ?_); refine goesL_ (some 35) rfl rfl Tryd.func64 (by kernel_rfl) rfl #[.agg #[.int .i64 ((rd_T34 l0_3 0).f0), .int .i64 ((rd_T34 l0_3 0).f1), .string ((rd_T34 l0_3 0).f2), .slice A104_3 ((rd_T34 l0_3 0).f3).length c104_3], .slice A1 l1.length c1] rfl qm ?_; (with_reducible refine (ih k (by omega) ((rd_T34 l0_3 0).f0) ((rd_T34 l0_3 0).f1) ((rd_T34 l0_3 0).f2) _ _ ((rd_T34 l0_3 0).f3) _ _ l1 t105 t106 _ ?side1 ?side2 ?side3 ?side4 A16.out).mono ?_); (case side1 => exact qC HR104_3.out); (case side2 => exact HC104_3.out); (case side3 => exact qC HR1.out); (case side4 => exact HC1.out); rintro e w22 ⟨rfl, hb⟩; refine ⟨_, rfl, ?_⟩; have n0_ := qn101 (g := gb101) hb; have n1_ := qs hb; clear BK101; clear HB; have BK101 := n0_; have HB := n1_; clear n0_ n1_; (try clear hb); obtain ⟨_, _, _, _, _, _, _, _⟩ := q4 BK101.out) | ((with_reducible refine gate_callee (f := 98) rfl ?_); refine goesL_ (some 46) rfl rfl Tryd.func98 (by kernel_rfl) rfl #[.int .i64 0, .int .i64 t105] rfl qm ?_; (with_reducible refine (expr_minus.calls 0 t105 t107 t108 _ A19.out).mono ?_); rintro e w' ⟨rfl, ⟨nd, rfl⟩⟩; refine ⟨_, rfl, ?_⟩))
    go_ret2
    exact qr
   rw [if_neg c18] at H
   obtain ⟨c18b0, c18b1⟩ := qd c18
   by_cases c24 : a0_0 = 3
   ·rw [if_pos c24] at H
    obtain ⟨c24b0, c24b1⟩ := qe c24
    clear c24
    replace H := qi H
    obtain ⟨t109, A25, H⟩ := H
    simp only [Option.some.injEq, Prod.mk.injEq] at H
    obtain ⟨rfl, rfl⟩ := H
    go_enter Tryd.func64, Tryd.ntmps64
    go_wp2_with (first | ((with_reducible refine gate_dst (N := 2) rfl ?_); refine box_event ?hg (N := 2) ?hd (cs := #[.int .i64 a0_0, .int .i64 a0_1, .string a0_2, .slice A0_3 l0_3.length c0_3]) (t := 34) ?hr ?_; (case hd => rfl); (case hg => rfl); (case hr => first | (go_simp; done) | (go_simp; rfl)); intro gb101 hg w26 hbox hb; have n0_ := qs hb; have n1_ := Aside0.mk (hbox); have n2_ := Aside0.mk ((by rw [hg]; exact (below_size qb) : w.heap.size ≤ gb101)); have n3_ := Aside0.mk ((by rw [hg]; exact (below_size qb) : w.heap.size ≤ gb101)); clear HB; have HB := n0_; have BK101 := n1_; have GW101 := n2_; have GE101 := n3_; clear n0_ n1_ n2_ n3_; clear hb hbox hg; obtain ⟨_, _, _, _, _, _, _, _⟩ := q4 BK101.out; have p104 : 0 ≤ (0 : Int) := (by omega); have q104 : 0 < (l0_3.length : Int) := qa; obtain ⟨ad104, A104_3, c104_3, e104, hx104_0, hx104_1, hx104_2, hx104_3, hl104_3, hi104_3⟩ := at_T34 HR0_3.out 0 p104 q104; cases e104; have qi104 : (0 < l0_3.length) = True := eq_true (by omega); (try rw [show ((0 : Int)).toNat = 0 from rfl] at hx104_0); (try rw [show 0 * 4 = 0 from rfl] at hx104_0); (try rw [Addr.add_zero'] at hx104_0); (try rw [show ((0 : Int)).toNat = 0 from rfl] at hx104_1); (try rw [show 0 * 4 = 0 from rfl] at hx104_1); (try rw [Addr.add_zero'] at hx104_1); (try rw [show ((0 : Int)).toNat = 0 from rfl] at hx104_2); (try rw [show 0 * 4 = 0 from rfl] at hx104_2); (try rw [Addr.add_zero'] at hx104_2); (try rw [show ((0 : Int)).toNat = 0 from rfl] at hx104_3); (try rw [show 0 * 4 = 0 from rfl] at hx104_3); (try rw [Addr.add_zero'] at hx104_3); replace hx104_0 := qc HB.out hx104_0; replace hx104_1 := qc HB.out hx104_1; replace hx104_2 := qc HB.out hx104_2; replace hx104_3 := qc HB.out hx104_3; have HR104_3 := Aside0.mk hi104_3; have HC104_3 := Aside0.mk hl104_3; clear hi104_3 hl104_3; replace p104 := eq_true p104; replace q104 := eq_true q104) | ((with_reducible refine gate_callee (f := 64) rfl ?_); refine goesL_ (some 35) rfl rfl Tryd.func64 (by kernel_rfl) rfl #[.agg #[.int .i64 ((rd_T34 l0_3 0).f0), .int .i64 ((rd_T34 l0_3 0).f1), .string ((rd_T34 l0_3 0).f2), .slice A104_3 ((rd_T34 l0_3 0).f3).length c104_3], .slice A1 l1.length c1] rfl qm ?_; (with_reducible refine (ih k (by omega) ((rd_T34 l0_3 0).f0) ((rd_T34 l0_3 0).f1) ((rd_T34 l0_3 0).f2) _ _ ((rd_T34 l0_3 0).f3) _ _ l1 t105 t106 _ ?side1 ?side2 ?side3 ?side4 A16.out).mono ?_); (case side1 => exact qC HR104_3.out); (case side2 => exact HC104_3.out); (case side3 => exact qC HR1.out); (case side4 => exact HC1.out); rintro e w28 ⟨rfl, hb⟩; refine ⟨_, rfl, ?_⟩; have n0_ := qn101 (g := gb101) hb; have n1_ := qs hb; clear BK101; clear HB; have BK101 := n0_; have HB := n1_; clear n0_ n1_; (try clear hb); obtain ⟨_, _, _, _, _, _, _, _⟩ := q4 BK101.out) | ((with_reducible refine gate_callee (f := 99) rfl ?_); refine goesL_ (some 53) rfl rfl Tryd.func99 (by kernel_rfl) rfl #[.bool (t105 == 0)] rfl qm ?_; (with_reducible refine (expr_truth.calls (t105 == 0) t109 _ A25.out).mono ?_); rintro e w' ⟨rfl, ⟨nd, rfl⟩⟩; refine ⟨_, rfl, ?_⟩))
    go_ret2
    exact qr
   rw [if_neg c24] at H
   obtain ⟨c24b0, c24b1⟩ := qd c24
   by_cases c30 : 1 < (l0_3.length : Int)
   ·rw [if_pos c30] at H
    have c30b0 : decide (1 < (l0_3.length : Int)) = true := decide_eq_true c30
    have c30b1 : decide (1 < l0_3.length) = true := decide_eq_true (by omega)
    clear c30
    replace H := qi H
    obtain ⟨⟨t111, t112⟩, A31, H⟩ := H
    replace H : (if t112 = 0 then ((expr_two.f k a0_0 t105 t111).bind fun bt113 => (some (bt113.1, bt113.2))) else (some (0, t112))) = some (r1, r2) := H
    by_cases c32 : t112 = 0
    ·rw [if_pos c32] at H
     obtain ⟨c32b0, c32b1⟩ := qe c32
     clear c32
     replace H := qi H
     obtain ⟨⟨t113, t114⟩, A33, H⟩ := H
     replace H : (some (t113, t114)) = some (r1, r2) := H
     simp only [Option.some.injEq, Prod.mk.injEq] at H
     obtain ⟨rfl, rfl⟩ := H
     go_enter Tryd.func64, Tryd.ntmps64
     go_wp2_with (first | ((with_reducible refine gate_dst (N := 2) rfl ?_); refine box_event ?hg (N := 2) ?hd (cs := #[.int .i64 a0_0, .int .i64 a0_1, .string a0_2, .slice A0_3 l0_3.length c0_3]) (t := 34) ?hr ?_; (case hd => rfl); (case hg => rfl); (case hr => first | (go_simp; done) | (go_simp; rfl)); intro gb101 hg w34 hbox hb; have n0_ := qs hb; have n1_ := Aside0.mk (hbox); have n2_ := Aside0.mk ((by rw [hg]; exact (below_size qb) : w.heap.size ≤ gb101)); have n3_ := Aside0.mk ((by rw [hg]; exact (below_size qb) : w.heap.size ≤ gb101)); clear HB; have HB := n0_; have BK101 := n1_; have GW101 := n2_; have GE101 := n3_; clear n0_ n1_ n2_ n3_; clear hb hbox hg; obtain ⟨_, _, _, _, _, _, _, _⟩ := q4 BK101.out; have p104 : 0 ≤ (0 : Int) := (by omega); have q104 : 0 < (l0_3.length : Int) := qa; obtain ⟨ad104, A104_3, c104_3, e104, hx104_0, hx104_1, hx104_2, hx104_3, hl104_3, hi104_3⟩ := at_T34 HR0_3.out 0 p104 q104; cases e104; have qi104 : (0 < l0_3.length) = True := eq_true (by omega); (try rw [show ((0 : Int)).toNat = 0 from rfl] at hx104_0); (try rw [show 0 * 4 = 0 from rfl] at hx104_0); (try rw [Addr.add_zero'] at hx104_0); (try rw [show ((0 : Int)).toNat = 0 from rfl] at hx104_1); (try rw [show 0 * 4 = 0 from rfl] at hx104_1); (try rw [Addr.add_zero'] at hx104_1); (try rw [show ((0 : Int)).toNat = 0 from rfl] at hx104_2); (try rw [show 0 * 4 = 0 from rfl] at hx104_2); (try rw [Addr.add_zero'] at hx104_2); (try rw [show ((0 : Int)).toNat = 0 from rfl] at hx104_3); (try rw [show 0 * 4 = 0 from rfl] at hx104_3); (try rw [Addr.add_zero'] at hx104_3); replace hx104_0 := qc HB.out hx104_0; replace hx104_1 := qc HB.out hx104_1; replace hx104_2 := qc HB.out hx104_2; replace hx104_3 := qc HB.out hx104_3; have HR104_3 := Aside0.mk hi104_3; have HC104_3 := Aside0.mk hl104_3; clear hi104_3 hl104_3; replace p104 := eq_true p104; replace q104 := eq_true q104) | ((with_reducible refine gate_callee (f := 64) rfl ?_); refine goesL_ (some 35) rfl rfl Tryd.func64 (by kernel_rfl) rfl #[.agg #[.int .i64 ((rd_T34 l0_3 0).f0), .int .i64 ((rd_T34 l0_3 0).f1), .string ((rd_T34 l0_3 0).f2), .slice A104_3 ((rd_T34 l0_3 0).f3).length c104_3], .slice A1 l1.length c1] rfl qm ?_; (with_reducible refine (ih k (by omega) ((rd_T34 l0_3 0).f0) ((rd_T34 l0_3 0).f1) ((rd_T34 l0_3 0).f2) _ _ ((rd_T34 l0_3 0).f3) _ _ l1 t105 t106 _ ?side1 ?side2 ?side3 ?side4 A16.out).mono ?_); (case side1 => exact qC HR104_3.out); (case side2 => exact HC104_3.out); (case side3 => exact qC HR1.out); (case side4 => exact HC1.out); rintro e w36 ⟨rfl, hb⟩; refine ⟨_, rfl, ?_⟩; have n0_ := qn101 (g := gb101) hb; have n1_ := qs hb; clear BK101; clear HB; have BK101 := n0_; have HB := n1_; clear n0_ n1_; (try clear hb); obtain ⟨_, _, _, _, _, _, _, _⟩ := q4 BK101.out; have p110 : 0 ≤ (1 : Int) := (by omega); have q110 : 1 < (l0_3.length : Int) := qa; obtain ⟨ad110, A110_3, c110_3, e110, hx110_0, hx110_1, hx110_2, hx110_3, hl110_3, hi110_3⟩ := at_T34 HR0_3.out 1 p110 q110; obtain rfl : ad104 = ad110 := (by injection e110); (try simp only [show (1 : Int).toNat = 1 from rfl, Nat.reduceMul, Nat.reduceEqDiff, Go.Addr.add, ↓reduceIte] at hx110_0); (try simp only [show (1 : Int).toNat = 1 from rfl, Nat.reduceMul, Nat.reduceEqDiff, Go.Addr.add, ↓reduceIte] at hx110_1); (try simp only [show (1 : Int).toNat = 1 from rfl, Nat.reduceMul, Nat.reduceEqDiff, Go.Addr.add, ↓reduceIte] at hx110_2); (try simp only [show (1 : Int).toNat = 1 from rfl, Nat.reduceMul, Nat.reduceEqDiff, Go.Addr.add, ↓reduceIte] at hx110_3); have qi110 : (1 < l0_3.length) = True := eq_true (by omega); (try rw [show ((1 : Int)).toNat = 1 from rfl] at hx110_0); (try rw [show 1 * 4 = 4 from rfl] at hx110_0); (try rw [show ((1 : Int)).toNat = 1 from rfl] at hx110_1); (try rw [show 1 * 4 = 4 from rfl] at hx110_1); (try rw [show ((1 : Int)).toNat = 1 from rfl] at hx110_2); (try rw [show 1 * 4 = 4 from rfl] at hx110_2); (try rw [show ((1 : Int)).toNat = 1 from rfl] at hx110_3); (try rw [show 1 * 4 = 4 from rfl] at hx110_3); replace hx110_0 := qc HB.out hx110_0; replace hx110_1 := qc HB.out hx110_1; replace hx110_2 := qc HB.out hx110_2; replace hx110_3 := qc HB.out hx110_3; have HR110_3 := Aside0.mk hi110_3; have HC110_3 := Aside0.mk hl110_3; clear hi110_3 hl110_3; replace p110 := eq_true p110; replace q110 := eq_true q110) | ((with_reducible refine gate_callee (f := 64) rfl ?_); refine goesL_ (some 60) rfl rfl Tryd.func64 (by kernel_rfl) rfl #[.agg #[.int .i64 ((rd_T34 l0_3 1).f0), .int .i64 ((rd_T34 l0_3 1).f1), .string ((rd_T34 l0_3 1).f2), .slice A110_3 ((rd_T34 l0_3 1).f3).length c110_3], .slice A1 l1.length c1] rfl qm ?_; (with_reducible refine (ih k (by omega) ((rd_T34 l0_3 1).f0) ((rd_T34 l0_3 1).f1) ((rd_T34 l0_3 1).f2) _ _ ((rd_T34 l0_3 1).f3) _ _ l1 t111 t112 _ ?side1 ?side2 ?side3 ?side4 A31.out).mono ?_); (case side1 => exact qC HR110_3.out); (case side2 => exact HC110_3.out); (case side3 => exact qC HR1.out); (case side4 => exact HC1.out); rintro e w38 ⟨rfl, hb⟩; refine ⟨_, rfl, ?_⟩; have n0_ := qn101 (g := gb101) hb; have n1_ := qs hb; clear BK101; clear HB; have BK101 := n0_; have HB := n1_; clear n0_ n1_; (try clear hb); obtain ⟨_, _, _, _, _, _, _, _⟩ := q4 BK101.out) | ((with_reducible refine gate_callee (f := 100) rfl ?_); refine goesL_ (some 70) rfl rfl Tryd.func100 (by kernel_rfl) rfl #[.int .i64 a0_0, .int .i64 t105, .int .i64 t111] rfl qm ?_; (with_reducible refine (expr_two.calls k a0_0 t105 t111 t113 t114 _ A33.out).mono ?_); rintro e w' ⟨rfl, ⟨nd, rfl⟩⟩; refine ⟨_, rfl, ?_⟩))
     go_ret2
     exact qr
    rw [if_neg c32] at H
    obtain ⟨c32b0, c32b1⟩ := qd c32
    simp only [Option.some.injEq, Prod.mk.injEq] at H
    obtain ⟨rfl, rfl⟩ := H
    go_enter Tryd.func64, Tryd.ntmps64
    go_wp2_with (first | ((with_reducible refine gate_dst (N := 2) rfl ?_); refine box_event ?hg (N := 2) ?hd (cs := #[.int .i64 a0_0, .int .i64 a0_1, .string a0_2, .slice A0_3 l0_3.length c0_3]) (t := 34) ?hr ?_; (case hd => rfl); (case hg => rfl); (case hr => first | (go_simp; done) | (go_simp; rfl)); intro gb101 hg w40 hbox hb; have n0_ := qs hb; have n1_ := Aside0.mk (hbox); have n2_ := Aside0.mk ((by rw [hg]; exact (below_size qb) : w.heap.size ≤ gb101)); have n3_ := Aside0.mk ((by rw [hg]; exact (below_size qb) : w.heap.size ≤ gb101)); clear HB; have HB := n0_; have BK101 := n1_; have GW101 := n2_; have GE101 := n3_; clear n0_ n1_ n2_ n3_; clear hb hbox hg; obtain ⟨_, _, _, _, _, _, _, _⟩ := q4 BK101.out; have p104 : 0 ≤ (0 : Int) := (by omega); have q104 : 0 < (l0_3.length : Int) := qa; obtain ⟨ad104, A104_3, c104_3, e104, hx104_0, hx104_1, hx104_2, hx104_3, hl104_3, hi104_3⟩ := at_T34 HR0_3.out 0 p104 q104; cases e104; have qi104 : (0 < l0_3.length) = True := eq_true (by omega); (try rw [show ((0 : Int)).toNat = 0 from rfl] at hx104_0); (try rw [show 0 * 4 = 0 from rfl] at hx104_0); (try rw [Addr.add_zero'] at hx104_0); (try rw [show ((0 : Int)).toNat = 0 from rfl] at hx104_1); (try rw [show 0 * 4 = 0 from rfl] at hx104_1); (try rw [Addr.add_zero'] at hx104_1); (try rw [show ((0 : Int)).toNat = 0 from rfl] at hx104_2); (try rw [show 0 * 4 = 0 from rfl] at hx104_2); (try rw [Addr.add_zero'] at hx104_2); (try rw [show ((0 : Int)).toNat = 0 from rfl] at hx104_3); (try rw [show 0 * 4 = 0 from rfl] at hx104_3); (try rw [Addr.add_zero'] at hx104_3); replace hx104_0 := qc HB.out hx104_0; replace hx104_1 := qc HB.out hx104_1; replace hx104_2 := qc HB.out hx104_2; replace hx104_3 := qc HB.out hx104_3; have HR104_3 := Aside0.mk hi104_3; have HC104_3 := Aside0.mk hl104_3; clear hi104_3 hl104_3; replace p104 := eq_true p104; replace q104 := eq_true q104) | ((with_reducible refine gate_callee (f := 64) rfl ?_); refine goesL_ (some 35) rfl rfl Tryd.func64 (by kernel_rfl) rfl #[.agg #[.int .i64 ((rd_T34 l0_3 0).f0), .int .i64 ((rd_T34 l0_3 0).f1), .string ((rd_T34 l0_3 0).f2), .slice A104_3 ((rd_T34 l0_3 0).f3).length c104_3], .slice A1 l1.length c1] rfl qm ?_; (with_reducible refine (ih k (by omega) ((rd_T34 l0_3 0).f0) ((rd_T34 l0_3 0).f1) ((rd_T34 l0_3 0).f2) _ _ ((rd_T34 l0_3 0).f3) _ _ l1 t105 t106 _ ?side1 ?side2 ?side3 ?side4 A16.out).mono ?_); (case side1 => exact qC HR104_3.out); (case side2 => exact HC104_3.out); (case side3 => exact qC HR1.out); (case side4 => exact HC1.out); rintro e w42 ⟨rfl, hb⟩; refine ⟨_, rfl, ?_⟩; have n0_ := qn101 (g := gb101) hb; have n1_ := qs hb; clear BK101; clear HB; have BK101 := n0_; have HB := n1_; clear n0_ n1_; (try clear hb); obtain ⟨_, _, _, _, _, _, _, _⟩ := q4 BK101.out; have p110 : 0 ≤ (1 : Int) := (by omega); have q110 : 1 < (l0_3.length : Int) := qa; obtain ⟨ad110, A110_3, c110_3, e110, hx110_0, hx110_1, hx110_2, hx110_3, hl110_3, hi110_3⟩ := at_T34 HR0_3.out 1 p110 q110; obtain rfl : ad104 = ad110 := (by injection e110); (try simp only [show (1 : Int).toNat = 1 from rfl, Nat.reduceMul, Nat.reduceEqDiff, Go.Addr.add, ↓reduceIte] at hx110_0); (try simp only [show (1 : Int).toNat = 1 from rfl, Nat.reduceMul, Nat.reduceEqDiff, Go.Addr.add, ↓reduceIte] at hx110_1); (try simp only [show (1 : Int).toNat = 1 from rfl, Nat.reduceMul, Nat.reduceEqDiff, Go.Addr.add, ↓reduceIte] at hx110_2); (try simp only [show (1 : Int).toNat = 1 from rfl, Nat.reduceMul, Nat.reduceEqDiff, Go.Addr.add, ↓reduceIte] at hx110_3); have qi110 : (1 < l0_3.length) = True := eq_true (by omega); (try rw [show ((1 : Int)).toNat = 1 from rfl] at hx110_0); (try rw [show 1 * 4 = 4 from rfl] at hx110_0); (try rw [show ((1 : Int)).toNat = 1 from rfl] at hx110_1); (try rw [show 1 * 4 = 4 from rfl] at hx110_1); (try rw [show ((1 : Int)).toNat = 1 from rfl] at hx110_2); (try rw [show 1 * 4 = 4 from rfl] at hx110_2); (try rw [show ((1 : Int)).toNat = 1 from rfl] at hx110_3); (try rw [show 1 * 4 = 4 from rfl] at hx110_3); replace hx110_0 := qc HB.out hx110_0; replace hx110_1 := qc HB.out hx110_1; replace hx110_2 := qc HB.out hx110_2; replace hx110_3 := qc HB.out hx110_3; have HR110_3 := Aside0.mk hi110_3; have HC110_3 := Aside0.mk hl110_3; clear hi110_3 hl110_3; replace p110 := eq_true p110; replace q110 := eq_true q110) | ((with_reducible refine gate_callee (f := 64) rfl ?_); refine goesL_ (some 60) rfl rfl Tryd.func64 (by kernel_rfl) rfl #[.agg #[.int .i64 ((rd_T34 l0_3 1).f0), .int .i64 ((rd_T34 l0_3 1).f1), .string ((rd_T34 l0_3 1).f2), .slice A110_3 ((rd_T34 l0_3 1).f3).length c110_3], .slice A1 l1.length c1] rfl qm ?_; (with_reducible refine (ih k (by omega) ((rd_T34 l0_3 1).f0) ((rd_T34 l0_3 1).f1) ((rd_T34 l0_3 1).f2) _ _ ((rd_T34 l0_3 1).f3) _ _ l1 t111 t112 _ ?side1 ?side2 ?side3 ?side4 A31.out).mono ?_); (case side1 => exact qC HR110_3.out); (case side2 => exact HC110_3.out); (case side3 => exact qC HR1.out); (case side4 => exact HC1.out); rintro e w44 ⟨rfl, hb⟩; refine ⟨_, rfl, ?_⟩; have n0_ := qn101 (g := gb101) hb; have n1_ := qs hb; clear BK101; clear HB; have BK101 := n0_; have HB := n1_; clear n0_ n1_; (try clear hb)))
    go_ret2
    exact qr
   rw [if_neg c30] at H
   exact absurd H (by simp)
  rw [if_neg c17] at H
  obtain ⟨c17b0, c17b1⟩ := qd c17
  simp only [Option.some.injEq, Prod.mk.injEq] at H
  obtain ⟨rfl, rfl⟩ := H
  go_enter Tryd.func64, Tryd.ntmps64
  go_wp2_with (first | ((with_reducible refine gate_dst (N := 2) rfl ?_); refine box_event ?hg (N := 2) ?hd (cs := #[.int .i64 a0_0, .int .i64 a0_1, .string a0_2, .slice A0_3 l0_3.length c0_3]) (t := 34) ?hr ?_; (case hd => rfl); (case hg => rfl); (case hr => first | (go_simp; done) | (go_simp; rfl)); intro gb101 hg w45 hbox hb; have n0_ := qs hb; have n1_ := Aside0.mk (hbox); have n2_ := Aside0.mk ((by rw [hg]; exact (below_size qb) : w.heap.size ≤ gb101)); have n3_ := Aside0.mk ((by rw [hg]; exact (below_size qb) : w.heap.size ≤ gb101)); clear HB; have HB := n0_; have BK101 := n1_; have GW101 := n2_; have GE101 := n3_; clear n0_ n1_ n2_ n3_; clear hb hbox hg; obtain ⟨_, _, _, _, _, _, _, _⟩ := q4 BK101.out; have p104 : 0 ≤ (0 : Int) := (by omega); have q104 : 0 < (l0_3.length : Int) := qa; obtain ⟨ad104, A104_3, c104_3, e104, hx104_0, hx104_1, hx104_2, hx104_3, hl104_3, hi104_3⟩ := at_T34 HR0_3.out 0 p104 q104; cases e104; have qi104 : (0 < l0_3.length) = True := eq_true (by omega); (try rw [show ((0 : Int)).toNat = 0 from rfl] at hx104_0); (try rw [show 0 * 4 = 0 from rfl] at hx104_0); (try rw [Addr.add_zero'] at hx104_0); (try rw [show ((0 : Int)).toNat = 0 from rfl] at hx104_1); (try rw [show 0 * 4 = 0 from rfl] at hx104_1); (try rw [Addr.add_zero'] at hx104_1); (try rw [show ((0 : Int)).toNat = 0 from rfl] at hx104_2); (try rw [show 0 * 4 = 0 from rfl] at hx104_2); (try rw [Addr.add_zero'] at hx104_2); (try rw [show ((0 : Int)).toNat = 0 from rfl] at hx104_3); (try rw [show 0 * 4 = 0 from rfl] at hx104_3); (try rw [Addr.add_zero'] at hx104_3); replace hx104_0 := qc HB.out hx104_0; replace hx104_1 := qc HB.out hx104_1; replace hx104_2 := qc HB.out hx104_2; replace hx104_3 := qc HB.out hx104_3; have HR104_3 := Aside0.mk hi104_3; have HC104_3 := Aside0.mk hl104_3; clear hi104_3 hl104_3; replace p104 := eq_true p104; replace q104 := eq_true q104) | ((with_reducible refine gate_callee (f := 64) rfl ?_); refine goesL_ (some 35) rfl rfl Tryd.func64 (by kernel_rfl) rfl #[.agg #[.int .i64 ((rd_T34 l0_3 0).f0), .int .i64 ((rd_T34 l0_3 0).f1), .string ((rd_T34 l0_3 0).f2), .slice A104_3 ((rd_T34 l0_3 0).f3).length c104_3], .slice A1 l1.length c1] rfl qm ?_; (with_reducible refine (ih k (by omega) ((rd_T34 l0_3 0).f0) ((rd_T34 l0_3 0).f1) ((rd_T34 l0_3 0).f2) _ _ ((rd_T34 l0_3 0).f3) _ _ l1 t105 t106 _ ?side1 ?side2 ?side3 ?side4 A16.out).mono ?_); (case side1 => exact qC HR104_3.out); (case side2 => exact HC104_3.out); (case side3 => exact qC HR1.out); (case side4 => exact HC1.out); rintro e w47 ⟨rfl, hb⟩; refine ⟨_, rfl, ?_⟩; have n0_ := qn101 (g := gb101) hb; have n1_ := qs hb; clear BK101; clear HB; have BK101 := n0_; have HB := n1_; clear n0_ n1_; (try clear hb)))
  go_ret2
  exact qr
 rw [if_neg c15] at H
 exact absurd H (by simp)
def expr_Eval.f (k : Nat) (a0_0 : Int) (a0_1 : Int) (a0_2 : ByteArray) (l0_3 : List (S34)) (l1 : List (S69)) : Option (Int × Int) := (expr_May.f k a0_0 a0_1 a0_2 l0_3).bind fun t102 => (if t102 = true then ((expr_reckon.f k a0_0 a0_1 a0_2 l0_3 l1).bind fun bt103 => (some (bt103.1, bt103.2))) else (some (0, 1)))
theorem expr_Eval.mono : ∀ a0 a1 a2 a3 a4 k, LeO (expr_Eval.f k a0 a1 a2 a3 a4) (expr_Eval.f (k + 1) a0 a1 a2 a3 a4) := by
  intro a0 a1 a2 a3 a4 k
  unfold expr_Eval.f
  repeat' first
      | (with_reducible exact expr_May.mono _ _ _ _ _)
      | (with_reducible exact expr_reckon.mono _ _ _ _ _ _)
      | (with_reducible exact LeO.refl _)
      | (with_reducible exact LeO.none _)
      | (with_reducible refine LeO.ite ?_ ?_)
      | (with_reducible refine LeO.bind ?_ (fun _ => ?_))
      | exact expr_May.mono _ _ _ _ _
      | exact expr_reckon.mono _ _ _ _ _ _
      | exact LeO.none _
      | refine LeO.ite ?_ ?_
      | refine LeO.bind ?_ (fun _ => ?_)
set_option maxHeartbeats 8000000 in
set_option maxRecDepth 100000 in
theorem expr_Eval.calls (k : Nat) (a0_0 : Int) (a0_1 : Int) (a0_2 : ByteArray) (A0_3 : Option Addr) (c0_3 : Nat) (l0_3 : List (S34)) (A1 : Option Addr) (c1 : Nat) (l1 : List (S69)) (r1 : Int) (r2 : Int) (w : World) (hr0_3 : Kd.C k34 w A0_3 l0_3.length l0_3) (hc0_3 : l0_3.length ≤ c0_3) (hr1 : Kd.C k69 w A1 l1.length l1) (hc1 : l1.length ≤ c1) (h : expr_Eval.f k a0_0 a0_1 a0_2 l0_3 l1 = some (r1, r2)) (hT : UT w) :
  Calls Tryd.prog 30 #[.agg #[.int .i64 a0_0, .int .i64 a0_1, .string a0_2, .slice A0_3 l0_3.length c0_3], .slice A1 l1.length c1] w fun e w' => e = .returned (.tuple #[.int .i64 r1, .int .i64 r2]) ∧ Below w.heap.size w w' := by
 have HT0 := Aside0.mk hT
 clear hT
 have hu34 := Tryd.underlying34
 have HR0_3 := Aside0.mk hr0_3
 have HC0_3 := Aside0.mk hc0_3
 clear hr0_3 hc0_3
 have HR1 := Aside0.mk hr1
 have HC1 := Aside0.mk hc1
 clear hr1 hc1
 have HB := Aside0.mk (Below.refl w.heap.size w)
 have H : ((expr_May.f k a0_0 a0_1 a0_2 l0_3).bind fun t102 => (if t102 = true then ((expr_reckon.f k a0_0 a0_1 a0_2 l0_3 l1).bind fun bt103 => (some (bt103.1, bt103.2))) else (some (0, 1)))) = some (r1, r2) := h
 clear h
 replace H := qi H
 obtain ⟨t102, A3, H⟩ := H
 by_cases c4 : t102 = true
 ·subst c4
  rw [if_pos rfl] at H
  replace H := qi H
  obtain ⟨⟨t103, t104⟩, A5, H⟩ := H
  replace H : (some (t103, t104)) = some (r1, r2) := H
  simp only [Option.some.injEq, Prod.mk.injEq] at H
  obtain ⟨rfl, rfl⟩ := H
  go_enter Tryd.func30, Tryd.ntmps30
  go_wp2_with (first | ((with_reducible refine gate_dst (N := 2) rfl ?_); refine box_event ?hg (N := 2) ?hd (cs := #[.int .i64 a0_0, .int .i64 a0_1, .string a0_2, .slice A0_3 l0_3.length c0_3]) (t := 34) ?hr ?_; (case hd => rfl); (case hg => rfl); (case hr => first | (go_simp; done) | (go_simp; rfl)); intro gb101 hg w6 hbox hb; have n0_ := qs hb; have n1_ := Aside0.mk (hbox); have n2_ := Aside0.mk ((by rw [hg]; exact (below_size qb) : w.heap.size ≤ gb101)); have n3_ := Aside0.mk ((by rw [hg]; exact (below_size qb) : w.heap.size ≤ gb101)); clear HB; have HB := n0_; have BK101 := n1_; have GW101 := n2_; have GE101 := n3_; clear n0_ n1_ n2_ n3_; clear hb hbox hg; obtain ⟨_, _, _, _, _, _, _, _⟩ := q4 BK101.out) | ((with_reducible refine gate_callee (f := 29) rfl ?_); refine goesL_ (some 7) rfl rfl Tryd.func29 (by kernel_rfl) rfl #[.agg #[.int .i64 a0_0, .int .i64 a0_1, .string a0_2, .slice A0_3 l0_3.length c0_3]] rfl qm ?_; (with_reducible refine (expr_May.calls k a0_0 a0_1 a0_2 _ _ l0_3 true _ ?side1 ?side2 A3.out (by first | exact HT0.out | exact UT.below HT0.out qb)).mono ?_); (case side1 => exact qC HR0_3.out); (case side2 => exact HC0_3.out); rintro e w8 ⟨rfl, hb⟩; refine ⟨_, rfl, ?_⟩; have n0_ := qn101 (g := gb101) hb; have n1_ := qs hb; clear BK101; clear HB; have BK101 := n0_; have HB := n1_; clear n0_ n1_; (try clear hb); obtain ⟨_, _, _, _, _, _, _, _⟩ := q4 BK101.out) | ((with_reducible refine gate_callee (f := 64) rfl ?_); refine goesL_ (some 11) rfl rfl Tryd.func64 (by kernel_rfl) rfl #[.agg #[.int .i64 a0_0, .int .i64 a0_1, .string a0_2, .slice A0_3 l0_3.length c0_3], .slice A1 l1.length c1] rfl qm ?_; (with_reducible refine (expr_reckon.calls k a0_0 a0_1 a0_2 _ _ l0_3 _ _ l1 t103 t104 _ ?side1 ?side2 ?side3 ?side4 A5.out).mono ?_); (case side1 => exact qC HR0_3.out); (case side2 => exact HC0_3.out); (case side3 => exact qC HR1.out); (case side4 => exact HC1.out); rintro e w10 ⟨rfl, hb⟩; refine ⟨_, rfl, ?_⟩; have n0_ := qn101 (g := gb101) hb; have n1_ := qs hb; clear BK101; clear HB; have BK101 := n0_; have HB := n1_; clear n0_ n1_; (try clear hb)))
  go_ret2
  exact qr
 replace c4 := Bool.eq_false_iff.mpr c4
 subst c4
 rw [if_neg qf] at H
 simp only [Option.some.injEq, Prod.mk.injEq] at H
 obtain ⟨rfl, rfl⟩ := H
 go_enter Tryd.func30, Tryd.ntmps30
 go_wp2_with (first | ((with_reducible refine gate_dst (N := 2) rfl ?_); refine box_event ?hg (N := 2) ?hd (cs := #[.int .i64 a0_0, .int .i64 a0_1, .string a0_2, .slice A0_3 l0_3.length c0_3]) (t := 34) ?hr ?_; (case hd => rfl); (case hg => rfl); (case hr => first | (go_simp; done) | (go_simp; rfl)); intro gb101 hg w11 hbox hb; have n0_ := qs hb; have n1_ := Aside0.mk (hbox); have n2_ := Aside0.mk ((by rw [hg]; exact (below_size qb) : w.heap.size ≤ gb101)); have n3_ := Aside0.mk ((by rw [hg]; exact (below_size qb) : w.heap.size ≤ gb101)); clear HB; have HB := n0_; have BK101 := n1_; have GW101 := n2_; have GE101 := n3_; clear n0_ n1_ n2_ n3_; clear hb hbox hg; obtain ⟨_, _, _, _, _, _, _, _⟩ := q4 BK101.out) | ((with_reducible refine gate_callee (f := 29) rfl ?_); refine goesL_ (some 7) rfl rfl Tryd.func29 (by kernel_rfl) rfl #[.agg #[.int .i64 a0_0, .int .i64 a0_1, .string a0_2, .slice A0_3 l0_3.length c0_3]] rfl qm ?_; (with_reducible refine (expr_May.calls k a0_0 a0_1 a0_2 _ _ l0_3 false _ ?side1 ?side2 A3.out (by first | exact HT0.out | exact UT.below HT0.out qb)).mono ?_); (case side1 => exact qC HR0_3.out); (case side2 => exact HC0_3.out); rintro e w13 ⟨rfl, hb⟩; refine ⟨_, rfl, ?_⟩; have n0_ := qn101 (g := gb101) hb; have n1_ := qs hb; clear BK101; clear HB; have BK101 := n0_; have HB := n1_; clear n0_ n1_; (try clear hb)))
 go_ret2
 exact qr
end Go.Proofs.YtiaccdaeomaogaaDoor.F
