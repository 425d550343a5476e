/- Texts of one claim, slimmed and merged by slim.py. -/
import Derived.Test.YtiaccdaeomaogaaDoorA4
import Derived.Test.YtiaccdaeomaogaaDoorA6
import Derived.Test.YtiaccdaeomaogaaDoorA13
import Derived.Test.YtiaccdaeomaogaaDoorA14
namespace Go.Proofs.YtiaccdaeomaogaaDoor.F
open Go.RowKit Go.Proofs.YtiaccdaeomaogaaDoorW.PrintWords Go.Proofs.YtiaccdaeomaogaaDoorW.PrintLast Go.Proofs.YtiaccdaeomaogaaDoorW.PrintMore
attribute [local go_sem] max2_int min2_int max_two min_two max_three min_three max_four min_four   -- for this text's walks alone
set_option linter.unusedVariables false
set_option linter.unusedSimpArgs false
def prog_Scan.f (k : Nat) (l0 : List (S67)) (a1_0 : Int) (a1_1 : Int) (l2 : List (S69)) : Option (Int × Int × (List (S72)) × Bool × Int) := (prog_Right.f l0 a1_0 a1_1).bind fun t103 => (if t103 = true then (if a1_0 = (l0.length : Int) then (some (a1_0, a1_1, ([] : List (S72)), true, 0)) else ((prog_step.f k l0 a1_0 a1_1 l2).bind fun bt104 => (if bt104.2.2.2.2.2.2.2 = 0 then (if bt104.2.2.2.2.2.2.1 = 2 then (if ([] : List (S72)).length < 2932031007402 then ((prog_goes_next.f bt104.1 bt104.2.1).bind fun bt116 => (some (bt116.1, bt116.2, (([] : List (S72)) ++ [(⟨bt104.2.2.1, bt104.2.2.2.1, bt104.2.2.2.2.1, bt104.2.2.2.2.2.1⟩ : S72)]), (bt116.1 == (l0.length : Int)), 0))) else (none)) else ((prog_goes_next.f bt104.1 bt104.2.1).bind fun bt119 => (some (bt119.1, bt119.2, ([] : List (S72)), (bt119.1 == (l0.length : Int)), 0)))) else (some (a1_0, a1_1, ([] : List (S72)), false, bt104.2.2.2.2.2.2.2))))) else (some (0, 0, ([] : List (S72)), false, 1)))
theorem prog_Scan.mono : ∀ a0 a1 a2 a3 k, LeO (prog_Scan.f k a0 a1 a2 a3) (prog_Scan.f (k + 1) a0 a1 a2 a3) := by
  intro a0 a1 a2 a3 k
  unfold prog_Scan.f
  repeat' first
      | (with_reducible exact prog_step.mono _ _ _ _ _)
      | (with_reducible exact LeO.refl _)
      | (with_reducible exact LeO.none _)
      | (with_reducible refine LeO.ite ?_ ?_)
      | (with_reducible refine LeO.bind ?_ (fun _ => ?_))
      | exact prog_step.mono _ _ _ _ _
      | exact LeO.none _
      | refine LeO.ite ?_ ?_
      | refine LeO.bind ?_ (fun _ => ?_)
def prog_Scan.T13 : Bool × List (List Nat × List Nat) := (true, [([], []), ([], []), ([], []), ([2], [2]), ([], []), ([4], [4]), ([3, 5], [3, 5]), ([0, 0], [0]), ([1, 7, 0, 1, 7], [1]), ([6, 8, 0, 1, 2, 3, 4, 5, 6, 7, 8], [6]), ([9, 0, 1, 2, 3, 4, 5, 6, 7, 8, 9], [])])
def prog_Scan.B13 : List Nat := [0, 0, 0, 4, 0, 16, 60, 1, 131, 511, 1023]
theorem prog_Scan.tab13 : rtab .any (opsOf Tryd.f38 13) = prog_Scan.T13 := by kernel_rfl
theorem prog_Scan.bits13 : waitsOk prog_Scan.T13.2 prog_Scan.B13 = true := by kernel_rfl
theorem step_mark {k : Nat} {l0 : List S67} {a b : Int} {l2 : List S69} {r1 r2 r3 : Int} {r4 r5 : ByteArray} {r6 r7 r8 : Int} (h : prog_step.f k l0 a b l2 = some (r1, r2, r3, r4, r5, r6, r7, r8)) (h0 : r8 = 0) : r7 = 1 ∨ r7 = 2 := by
 have J2 : ∀ k x0 x14 x54 x55 a b c d e f g h i j l m, prog_step.j2 k x0 x14 x54 x55 a b c d e f g h i j l m = some (r1, r2, r3, r4, r5, r6, r7, r8) → r7 = 1 ∨ r7 = 2 := by
  intro k x0 x14 x54 x55 a b c d e f g h i j l m hh
  cases k with
  | zero => simp [prog_step.j2] at hh
  | succ k =>
   simp only [prog_step.j2] at hh
   repeat' split at hh
   all_goals first | (simp only [Option.some.injEq, Prod.mk.injEq] at hh; omega) | (obtain ⟨t, _, hh⟩ := Option.bind_eq_some_iff.mp hh; simp only [Option.some.injEq, Prod.mk.injEq] at hh; omega)
 have J1 : ∀ k x0 x14 a b c d e f g h i j, prog_step.j1 k x0 x14 a b c d e f g h i j = some (r1, r2, r3, r4, r5, r6, r7, r8) → r7 = 1 ∨ r7 = 2 := by
  intro k x0 x14 a b c d e f g h i j hh
  cases k with
  | zero => simp [prog_step.j1] at hh
  | succ k =>
   simp only [prog_step.j1] at hh
   repeat' split at hh
   all_goals exact J2 _ _ _ _ _ _ _ _ _ _ _ _ _ _ _ _ _ hh
 have J0 : ∀ k x0 x2 x14 x37 a b c d e f g h i j, prog_step.j0 k x0 x2 x14 x37 a b c d e f g h i j = some (r1, r2, r3, r4, r5, r6, r7, r8) → r7 = 1 ∨ r7 = 2 := by
  intro k x0 x2 x14 x37 a b c d e f g h i j hh
  cases k with
  | zero => simp [prog_step.j0] at hh
  | succ k =>
   simp only [prog_step.j0] at hh
   split at hh
   ·obtain ⟨t, _, hh⟩ := Option.bind_eq_some_iff.mp hh
    split at hh
    ·exact J1 _ _ _ _ _ _ _ _ _ _ _ _ _ hh
    simp only [Option.some.injEq, Prod.mk.injEq] at hh
    rename_i hne
    exact absurd (hh.2.2.2.2.2.2.2.trans h0) hne
   exact J1 _ _ _ _ _ _ _ _ _ _ _ _ _ hh
 unfold prog_step.f at h
 split at h
 ·split at h
  ·obtain ⟨t, _, h⟩ := Option.bind_eq_some_iff.mp h
   split at h
   ·exact J0 _ _ _ _ _ _ _ _ _ _ _ _ _ _ _ h
   exact J0 _ _ _ _ _ _ _ _ _ _ _ _ _ _ _ h
  cases h
 cases h
theorem step_wants {rm : Int} (hm : rm = 2) (k : Nat) (A0 : Option Addr) (c0 : Nat) (l0 : List S67) (a1_0 : Int) (a1_1 : Int) (A2 : Option Addr) (c2 : Nat) (l2 : List S69) (r1 : Int) (r2 : Int) (r3 : Int) (r4 : ByteArray) (r5 : ByteArray) (r6 : Int) (r7 : Int) (r8 : Int) (w : World) (hr0 : Kd.C k67 w A0 l0.length l0) (hc0 : l0.length ≤ c0) (hr2 : Kd.C k69 w A2 l2.length l2) (hc2 : l2.length ≤ c2) (h : prog_step.f k l0 a1_0 a1_1 l2 = some (r1, r2, r3, r4, r5, r6, rm, r8)) (hT : UT w) :
    Calls Tryd.prog 70 #[.slice A0 l0.length c0, .agg #[.int .i64 a1_0, .int .i64 a1_1], .slice A2 l2.length c2] w fun e w' => e = .returned (.tuple #[.iface 116 (.agg #[.int .i64 r1, .int .i64 r2, .int .i64 r3, .string r4, .string r5, .int .i64 r6]), .int .i64 r8]) ∧ Below w.heap.size w w' := by
  subst hm
  exact prog_step.calls k A0 c0 l0 a1_0 a1_1 A2 c2 l2 r1 r2 r3 r4 r5 r6 2 r8 w hr0 hc0 hr2 hc2 h hT
theorem step_goes {rm : Int} (hm : rm = 1) (k : Nat) (A0 : Option Addr) (c0 : Nat) (l0 : List S67) (a1_0 : Int) (a1_1 : Int) (A2 : Option Addr) (c2 : Nat) (l2 : List S69) (r1 : Int) (r2 : Int) (r3 : Int) (r4 : ByteArray) (r5 : ByteArray) (r6 : Int) (r7 : Int) (r8 : Int) (w : World) (hr0 : Kd.C k67 w A0 l0.length l0) (hc0 : l0.length ≤ c0) (hr2 : Kd.C k69 w A2 l2.length l2) (hc2 : l2.length ≤ c2) (h : prog_step.f k l0 a1_0 a1_1 l2 = some (r1, r2, r3, r4, r5, r6, rm, r8)) (hT : UT w) :
    Calls Tryd.prog 70 #[.slice A0 l0.length c0, .agg #[.int .i64 a1_0, .int .i64 a1_1], .slice A2 l2.length c2] w fun e w' => e = .returned (.tuple #[.iface 114 (.agg #[.int .i64 r1, .int .i64 r2]), .int .i64 r8]) ∧ Below w.heap.size w w' := by
  subst hm
  exact prog_step.calls k A0 c0 l0 a1_0 a1_1 A2 c2 l2 r1 r2 r3 r4 r5 r6 1 r8 w hr0 hc0 hr2 hc2 h hT
theorem inv_goes (a b : Int) (w : World) : (invoke (.fn (.method "malthouse/prog.next") #[]) #[.iface 114 (.agg #[.int .i64 a, .int .i64 b])]).run Tryd.prog w = .ok (.enter 195 #[.agg #[.int .i64 a, .int .i64 b]]) w := by kernel_rfl
theorem inv_wants (a b c : Int) (d e : ByteArray) (f : Int) (w : World) : (invoke (.fn (.method "malthouse/prog.next") #[]) #[.iface 116 (.agg #[.int .i64 a, .int .i64 b, .int .i64 c, .string d, .string e, .int .i64 f])]).run Tryd.prog w = .ok (.enter 195 #[.agg #[.int .i64 a, .int .i64 b]]) w := by kernel_rfl
theorem as_wants (a b c : Int) (d e : ByteArray) (f : Int) (w : World) : (Instr.typeAssert (.iface 116 (.agg #[.int .i64 a, .int .i64 b, .int .i64 c, .string d, .string e, .int .i64 f])) 111 116 true).run Tryd.prog w = .ok (.tuple #[.agg #[.int .i64 a, .int .i64 b, .int .i64 c, .string d, .string e, .int .i64 f], .bool true]) w := by kernel_rfl
theorem as_goes (a b : Int) (w : World) : (Instr.typeAssert (.iface 114 (.agg #[.int .i64 a, .int .i64 b])) 111 116 true).run Tryd.prog w = .ok (.tuple #[.agg #[.int .i64 0, .int .i64 0, .int .i64 0, .string (⟨#[]⟩ : ByteArray), .string (⟨#[]⟩ : ByteArray), .int .i64 0], .bool false]) w := by kernel_rfl
theorem goesI_ {P : Program} {ops : Array Oper} {Q : Exit → Act → World → Prop} {rest : List Oper} {oi : Oper} {a : Act} {w : World} (N : Option Tmp) (hd : oi.dst = N) (hg : oi.guard = none) {r : Operand} {name : String} {f : FuncId} {args : Array Value} {x : Value} (hop : oi.op = .call { callee := .invoke r name, args := #[], argTypes := #[] }) (hr : a.eval r = x) (hi : (invoke (.fn (.method name) #[]) #[x]).run P w = .ok (.enter f args) w)
    (h : Calls P f args w fun e w' => ∃ v, e = .returned v ∧ wpList P ops Q rest (a.put N v) w') : wpList P ops Q (oi :: rest) a w := by
  refine wpList_plain hg fun K hK => ?_
  have hrun : (execOp a.eval oi).run P w = .ok (.enter f args) w := by
    unfold execOp
    simp [hop, resolve, hr, hi]
  unfold Oper.wp
  rw [hrun, Oper.upon_enter]
  refine h.mono fun e w'' hh => ?_
  obtain ⟨v, rfl, hk⟩ := hh
  subst hd
  exact hK _ _ hk
set_option maxHeartbeats 8000000 in
set_option maxRecDepth 100000 in
theorem prog_Scan.calls (k : Nat) (A0 : Option Addr) (c0 : Nat) (l0 : List (S67)) (a1_0 : Int) (a1_1 : Int) (A2 : Option Addr) (c2 : Nat) (l2 : List (S69)) (r1 : Int) (r2 : Int) (r3 : List (S72)) (r4 : Bool) (r5 : Int) (w : World) (hr0 : Kd.C k67 w A0 l0.length l0) (hc0 : l0.length ≤ c0) (hr2 : Kd.C k69 w A2 l2.length l2) (hc2 : l2.length ≤ c2) (h : prog_Scan.f k l0 a1_0 a1_1 l2 = some (r1, r2, r3, r4, r5)) (hT : UT w) :
  Calls Tryd.prog 38 #[.slice A0 l0.length c0, .agg #[.int .i64 a1_0, .int .i64 a1_1], .slice A2 l2.length c2] w fun e w' => ∃ v2_ : Value, e = .returned (.tuple #[.agg #[.int .i64 r1, .int .i64 r2], v2_, .bool r4, .int .i64 r5]) ∧ Kd.R k72 72 w' w.heap.size (fun _ => True) v2_ r3 ∧ Below w.heap.size w w' := by
 have HT0 := Aside0.mk hT
 clear hT
 have hu57 := Tryd.underlying57
 have hu116 := Tryd.underlying116
 have hu72 := Tryd.underlying72
 have HR0 := Aside0.mk hr0
 have HC0 := Aside0.mk hc0
 clear hr0 hc0
 have HR2 := Aside0.mk hr2
 have HC2 := Aside0.mk hc2
 clear hr2 hc2
 have HB := Aside0.mk (Below.refl w.heap.size w)
 have H : ((prog_Right.f l0 a1_0 a1_1).bind fun t103 => (if t103 = true then (if a1_0 = (l0.length : Int) then (some (a1_0, a1_1, ([] : List (S72)), true, 0)) else ((prog_step.f k l0 a1_0 a1_1 l2).bind fun bt104 => (if bt104.2.2.2.2.2.2.2 = 0 then (if bt104.2.2.2.2.2.2.1 = 2 then (if ([] : List (S72)).length < 2932031007402 then ((prog_goes_next.f bt104.1 bt104.2.1).bind fun bt116 => (some (bt116.1, bt116.2, (([] : List (S72)) ++ [(⟨bt104.2.2.1, bt104.2.2.2.1, bt104.2.2.2.2.1, bt104.2.2.2.2.2.1⟩ : S72)]), (bt116.1 == (l0.length : Int)), 0))) else (none)) else ((prog_goes_next.f bt104.1 bt104.2.1).bind fun bt119 => (some (bt119.1, bt119.2, ([] : List (S72)), (bt119.1 == (l0.length : Int)), 0)))) else (some (a1_0, a1_1, ([] : List (S72)), false, bt104.2.2.2.2.2.2.2))))) else (some (0, 0, ([] : List (S72)), false, 1)))) = some (r1, r2, r3, r4, r5) := h
 clear h
 replace H := qi H
 obtain ⟨t103, A4, H⟩ := H
 by_cases c5 : t103 = true
 ·subst c5
  rw [if_pos rfl] at H
  by_cases c6 : a1_0 = (l0.length : Int)
  ·rw [if_pos c6] at H
   obtain ⟨c6b0, c6b1⟩ := qe c6
   clear c6
   simp only [Option.some.injEq, Prod.mk.injEq] at H
   obtain ⟨rfl, rfl, rfl, rfl, rfl⟩ := H
   go_enter Tryd.func38, Tryd.ntmps38
   go_wp2_with (first | ((with_reducible refine gate_dst (N := 4) rfl ?_); refine box_event ?hg (N := 4) ?hd (cs := #[.int .i64 a1_0, .int .i64 a1_1]) (t := 57) ?hr ?_; (case hd => rfl); (case hg => rfl); (case hr => first | (go_simp; done) | (go_simp; rfl)); intro gb101 hg w7 hbox hb; have n0_ := qs hb; have n1_ := Aside0.mk (hbox); have n2_ := Aside0.mk ((by rw [hg]; exact (below_size qb) : w.heap.size ≤ gb101)); have n3_ := Aside0.mk ((by rw [hg]; exact (below_size qb) : w.heap.size ≤ gb101)); clear HB; have HB := n0_; have BK101 := n1_; have GW101 := n2_; have GE101 := n3_; clear n0_ n1_ n2_ n3_; clear hb hbox hg) | ((with_reducible refine gate_dst (N := 6) rfl ?_); refine box_event ?hg (N := 6) ?hd (cs := #[.int .i64 0, .int .i64 0]) (t := 57) ?hr ?_; (case hd => rfl); (case hg => rfl); (case hr => first | (go_simp; done) | (go_simp; rfl)); intro gb102 hg w8 hbox hb; have n0_ := qn101 (g := gb101) hb; have n1_ := qs hb; have n2_ := Aside0.mk (hbox); have n3_ := Aside0.mk ((by rw [hg]; exact (below_size qb) : w.heap.size ≤ gb102)); have n4_ := Aside0.mk ((by rw [hg]; exact (below_size qb) : w.heap.size ≤ gb102)); have n5_ := Aside0.mk ((by rw [hg]; exact Nat.ne_of_lt (blk_lt (g := gb101) (o := .cells #[.int .i64 a1_0, .int .i64 a1_1] 57 (0, 0)) (by (with_reducible repeat (first | refine blk_drewN ?_ _ | refine blk_drew ?_ | refine blk_alloc ?_ _)); exact BK101.out)) : gb101 ≠ gb102)); have n6_ := Aside0.mk ((by rw [hg]; exact Nat.ne_of_gt (blk_lt (g := gb101) (o := .cells #[.int .i64 a1_0, .int .i64 a1_1] 57 (0, 0)) (by (with_reducible repeat (first | refine blk_drewN ?_ _ | refine blk_drew ?_ | refine blk_alloc ?_ _)); exact BK101.out)) : gb102 ≠ gb101)); clear BK101; clear HB; have BK101 := n0_; have HB := n1_; have BK102 := n2_; have GW102 := n3_; have GE102 := n4_; have NB101_102 := n5_; have NB102_101 := n6_; clear n0_ n1_ n2_ n3_ n4_ n5_ n6_; clear hb hbox hg; have hnb9 := NB101_102.out; have hnc9 := NB102_101.out; obtain ⟨_, _, _, _⟩ := q2 BK101.out) | ((with_reducible refine gate_callee (f := 41) rfl ?_); refine goesL_ (some 18) rfl rfl Tryd.func41 (by kernel_rfl) rfl #[.slice A0 l0.length c0, .agg #[.int .i64 a1_0, .int .i64 a1_1]] rfl qm ?_; (with_reducible refine (prog_Right.calls _ _ l0 a1_0 a1_1 true _ ?side1 ?side2 A4.out).mono ?_); (case side1 => exact qC HR0.out); (case side2 => exact HC0.out); rintro e w11 ⟨rfl, hb⟩; refine ⟨_, rfl, ?_⟩; have n0_ := qn101 (g := gb101) hb; have n1_ := qn102 (g := gb102) hb; have n2_ := qs hb; clear BK101; clear BK102; clear HB; have BK101 := n0_; have BK102 := n1_; have HB := n2_; clear n0_ n1_ n2_; (try clear hb); obtain ⟨_, _, _, _⟩ := q2 BK101.out; obtain ⟨_, _, _, _⟩ := q2 BK102.out))
   refine bodyPost_ret (results_list (rs := [.cell 6 57, .tmp 7, .tmp 8, .tmp 9]) rfl (by simp) (.cell gb102 57 #[.int .i64 a1_0, .int .i64 a1_1] (0, 0) _ rfl qy102 Tryd.underlying57 rfl (by kernel_rfl) (.tmp (.tmp (.tmp .nil))))) rfl ?_
   exact ⟨_, by first | rfl | (simp [errW_none, errW_some] <;> rfl) | (simp [*, errW_none, errW_some] <;> rfl), by first | exact Kd.R_nil _ _ _ _ _ | exact Kd.N_nil _ _ _ _ _ | exact Kd.V_nil _ _ _ _ _ | exact Kd.Q_nil _ _ _ _ _ | exact Kd.S_nil _ _ _ _ _, qb⟩
  rw [if_neg c6] at H
  obtain ⟨c6b0, c6b1⟩ := qd c6
  replace H := qi H
  obtain ⟨⟨t104, t105, t106, t107, t108, t109, t110, t111⟩, A14, H⟩ := H
  replace H : (if t111 = 0 then (if t110 = 2 then (if ([] : List (S72)).length < 2932031007402 then ((prog_goes_next.f t104 t105).bind fun bt116 => (some (bt116.1, bt116.2, (([] : List (S72)) ++ [(⟨t106, t107, t108, t109⟩ : S72)]), (bt116.1 == (l0.length : Int)), 0))) else (none)) else ((prog_goes_next.f t104 t105).bind fun bt119 => (some (bt119.1, bt119.2, ([] : List (S72)), (bt119.1 == (l0.length : Int)), 0)))) else (some (a1_0, a1_1, ([] : List (S72)), false, t111))) = some (r1, r2, r3, r4, r5) := H
  by_cases c15 : t111 = 0
  ·rw [if_pos c15] at H
   obtain ⟨c15b0, c15b1⟩ := qe c15
   have C15 := Aside0.mk c15
   clear c15
   by_cases c16 : t110 = 2
   ·rw [if_pos c16] at H
    obtain ⟨c16b0, c16b1⟩ := qe c16
    have C16 := Aside0.mk c16
    clear c16
    by_cases c17 : ([] : List (S72)).length < 2932031007402
    ·rw [if_pos c17] at H
     have LMc17 := Aside0.mk c17
     clear c17
     obtain ⟨y113, hy113⟩ : ∃ y_ : List (S72), y_ = (([] : List (S72)) ++ [(⟨t106, t107, t108, t109⟩ : S72)]) := ⟨_, rfl⟩
     replace H : ((prog_goes_next.f t104 t105).bind fun bt116 => (some (bt116.1, bt116.2, y113, (bt116.1 == (l0.length : Int)), 0))) = some (r1, r2, r3, r4, r5) := by first | (rw [hy113]; with_reducible exact H) | (have H2_ := (Option.bind_some _ _).symm.trans H; rw [hy113]; with_reducible exact H2_) | (have H2_ := (Option.bind_some _ _).symm.trans H; with_reducible exact H2_) | with_reducible exact H | (rw [hy113]; exact H) | exact H
     have Ny113 := Aside0.mk hy113
     clear hy113
     replace H := qi H
     obtain ⟨⟨t116, t117⟩, A18, H⟩ := H
     replace H : (some (t116, t117, y113, (t116 == (l0.length : Int)), 0)) = some (r1, r2, r3, r4, r5) := H
     simp only [Option.some.injEq, Prod.mk.injEq] at H
     obtain ⟨rfl, rfl, rfl, rfl, rfl⟩ := H
     have hAs_ := fun w_ => as_wants t104 t105 t106 t107 t108 t109 w_
     go_enter Tryd.func38, Tryd.ntmps38
     try go_wp2_with (first | ((with_reducible refine gate_dst (N := 4) rfl ?_); refine box_event ?hg (N := 4) ?hd (cs := #[.int .i64 a1_0, .int .i64 a1_1]) (t := 57) ?hr ?_; (case hd => rfl); (case hg => rfl); (case hr => first | (go_simp; done) | (go_simp; rfl)); intro gb101 hg w19 hbox hb; have n0_ := qs hb; have n1_ := Aside0.mk (hbox); have n2_ := Aside0.mk ((by rw [hg]; exact (below_size qb) : w.heap.size ≤ gb101)); have n3_ := Aside0.mk ((by rw [hg]; exact (below_size qb) : w.heap.size ≤ gb101)); clear HB; have HB := n0_; have BK101 := n1_; have GW101 := n2_; have GE101 := n3_; clear n0_ n1_ n2_ n3_; clear hb hbox hg) | ((with_reducible refine gate_dst (N := 6) rfl ?_); refine box_event ?hg (N := 6) ?hd (cs := #[.int .i64 0, .int .i64 0]) (t := 57) ?hr ?_; (case hd => rfl); (case hg => rfl); (case hr => first | (go_simp; done) | (go_simp; rfl)); intro gb102 hg w20 hbox hb; have n0_ := qn101 (g := gb101) hb; have n1_ := qs hb; have n2_ := Aside0.mk (hbox); have n3_ := Aside0.mk ((by rw [hg]; exact (below_size qb) : w.heap.size ≤ gb102)); have n4_ := Aside0.mk ((by rw [hg]; exact (below_size qb) : w.heap.size ≤ gb102)); have n5_ := Aside0.mk ((by rw [hg]; exact Nat.ne_of_lt (blk_lt (g := gb101) (o := .cells #[.int .i64 a1_0, .int .i64 a1_1] 57 (0, 0)) (by (with_reducible repeat (first | refine blk_drewN ?_ _ | refine blk_drew ?_ | refine blk_alloc ?_ _)); exact BK101.out)) : gb101 ≠ gb102)); have n6_ := Aside0.mk ((by rw [hg]; exact Nat.ne_of_gt (blk_lt (g := gb101) (o := .cells #[.int .i64 a1_0, .int .i64 a1_1] 57 (0, 0)) (by (with_reducible repeat (first | refine blk_drewN ?_ _ | refine blk_drew ?_ | refine blk_alloc ?_ _)); exact BK101.out)) : gb102 ≠ gb101)); clear BK101; clear HB; have BK101 := n0_; have HB := n1_; have BK102 := n2_; have GW102 := n3_; have GE102 := n4_; have NB101_102 := n5_; have NB102_101 := n6_; clear n0_ n1_ n2_ n3_ n4_ n5_ n6_; clear hb hbox hg; have hnb21 := NB101_102.out; have hnc21 := NB102_101.out; obtain ⟨_, _, _, _⟩ := q2 BK101.out) | ((with_reducible refine gate_callee (f := 41) rfl ?_); refine goesL_ (some 18) rfl rfl Tryd.func41 (by kernel_rfl) rfl #[.slice A0 l0.length c0, .agg #[.int .i64 a1_0, .int .i64 a1_1]] rfl qm ?_; (with_reducible refine (prog_Right.calls _ _ l0 a1_0 a1_1 true _ ?side1 ?side2 A4.out).mono ?_); (case side1 => exact qC HR0.out); (case side2 => exact HC0.out); rintro e w23 ⟨rfl, hb⟩; refine ⟨_, rfl, ?_⟩; have n0_ := qn101 (g := gb101) hb; have n1_ := qn102 (g := gb102) hb; have n2_ := qs hb; clear BK101; clear BK102; clear HB; have BK101 := n0_; have BK102 := n1_; have HB := n2_; clear n0_ n1_ n2_; (try clear hb); obtain ⟨_, _, _, _⟩ := q2 BK101.out) | ((with_reducible refine gate_callee (f := 70) rfl ?_); refine goesL_ (some 31) rfl rfl Tryd.func70 (by kernel_rfl) rfl #[.slice A0 l0.length c0, .agg #[.int .i64 a1_0, .int .i64 a1_1], .slice A2 l2.length c2] rfl qm ?_; (with_reducible refine (step_wants C16.out k _ _ l0 a1_0 a1_1 _ _ l2 t104 t105 t106 t107 t108 t109 t110 t111 _ ?side1 ?side2 ?side3 ?side4 A14.out (by first | exact HT0.out | exact UT.below HT0.out qb)).mono ?_); (case side1 => exact qC HR0.out); (case side2 => exact HC0.out); (case side3 => exact qC HR2.out); (case side4 => exact HC2.out); rintro e w25 ⟨rfl, hb⟩; refine ⟨_, rfl, ?_⟩; have n0_ := qn101 (g := gb101) hb; have n1_ := qn102 (g := gb102) hb; have n2_ := qs hb; clear BK101; clear BK102; clear HB; have BK101 := n0_; have BK102 := n1_; have HB := n2_; clear n0_ n1_ n2_; (try clear hb)) | ((with_reducible refine gate_dst (N := 13) rfl ?_); refine box_event ?hg (N := 13) ?hd (cs := #[.int .i64 0, .int .i64 0, .int .i64 0, .string (⟨#[]⟩ : ByteArray), .string (⟨#[]⟩ : ByteArray), .int .i64 0]) (t := 116) ?hr ?_; (case hd => rfl); (case hg => rfl); (case hr => first | (go_simp; done) | (go_simp; rfl)); intro gb112 hg w26 hbox hb; have n0_ := qn101 (g := gb101) hb; have n1_ := qn102 (g := gb102) hb; have n2_ := qs hb; have n3_ := Aside0.mk (hbox); have n4_ := Aside0.mk ((by rw [hg]; exact (below_size qb) : w.heap.size ≤ gb112)); have n5_ := Aside0.mk ((by rw [hg]; exact (below_size qb) : w.heap.size ≤ gb112)); have n6_ := Aside0.mk ((by rw [hg]; exact Nat.ne_of_lt (blk_lt (g := gb101) (o := .cells #[.int .i64 a1_0, .int .i64 a1_1] 57 (0, 0)) (by (with_reducible repeat (first | refine blk_drewN ?_ _ | refine blk_drew ?_ | refine blk_alloc ?_ _)); exact BK101.out)) : gb101 ≠ gb112)); have n7_ := Aside0.mk ((by rw [hg]; exact Nat.ne_of_gt (blk_lt (g := gb101) (o := .cells #[.int .i64 a1_0, .int .i64 a1_1] 57 (0, 0)) (by (with_reducible repeat (first | refine blk_drewN ?_ _ | refine blk_drew ?_ | refine blk_alloc ?_ _)); exact BK101.out)) : gb112 ≠ gb101)); have n8_ := Aside0.mk ((by rw [hg]; exact Nat.ne_of_lt (blk_lt (g := gb102) (o := .cells #[.int .i64 0, .int .i64 0] 57 (0, 0)) (by (with_reducible repeat (first | refine blk_drewN ?_ _ | refine blk_drew ?_ | refine blk_alloc ?_ _)); exact BK102.out)) : gb102 ≠ gb112)); have n9_ := Aside0.mk ((by rw [hg]; exact Nat.ne_of_gt (blk_lt (g := gb102) (o := .cells #[.int .i64 0, .int .i64 0] 57 (0, 0)) (by (with_reducible repeat (first | refine blk_drewN ?_ _ | refine blk_drew ?_ | refine blk_alloc ?_ _)); exact BK102.out)) : gb112 ≠ gb102)); clear BK101; clear BK102; clear HB; have BK101 := n0_; have BK102 := n1_; have HB := n2_; have BK112 := n3_; have GW112 := n4_; have GE112 := n5_; have NB101_112 := n6_; have NB112_101 := n7_; have NB102_112 := n8_; have NB112_102 := n9_; clear n0_ n1_ n2_ n3_ n4_ n5_ n6_ n7_ n8_ n9_; clear hb hbox hg; have hnb27 := NB112_101.out; have hnc27 := NB101_112.out; have hnb28 := NB112_102.out; have hnc28 := NB102_112.out; obtain ⟨_, _, _, _, _, _, _, _, _, _, _, _⟩ := q6 BK112.out) | ((with_reducible refine gate_builtin (b := .append) (xs := #[.tmp 44, .tmp 47]) rfl ?_); at_builtin; refine Kd.R_append k72 (w0 := w) w.heap.size rfl (.tmp 44) (.tmp 47) 59 72 (.agg #[(.int .i64 0), (.string ⟨#[]⟩), (.string ⟨#[]⟩), (.int .i64 0)]) 48 rfl Tryd.underlying59 info72 rfl (by decide) (by omega) (.slice none 0 0) ([] : List (S72)) (⟨t106, t107, t108, t109⟩ : S72) [.int .i64 t106, .string t107, .string t108, .int .i64 t109] (fun _ => True) (fun _ => False) rfl (by first | (go_simp; done) | (go_simp; rfl)) ?aP (fun _ hk => hk.elim) ?aF ?aO ?aB ?aS ?aL ?_; (case aP => exact k72_mkM _ _ _ (⟨t106, t107, t108, t109⟩ : S72)); (case aB => exact qb); (case aF => exact (fun _ _ => trivial)); (case aO => exact ((Kd.R_nil _ _ _ _ (fun _ => True)))); (case aS => exact (below_size qb)); (case aL => have := LMc17.out; omega); intro v114 w30 ho hb hg hat; rw [← Ny113.out] at ho; have n0_ := Aside0.mk (blk_grown (g := gb101) (o := .cells #[.int .i64 a1_0, .int .i64 a1_1] 57 (0, 0)) (by (with_reducible repeat (first | refine blk_drewN ?_ _ | refine blk_drew ?_ | refine blk_alloc ?_ _)); refine blk_far ?_ NB101_112.out _; (with_reducible repeat (first | refine blk_drewN ?_ _ | refine blk_drew ?_ | refine blk_alloc ?_ _)); refine blk_far ?_ NB101_112.out _; (with_reducible repeat (first | refine blk_drewN ?_ _ | refine blk_drew ?_ | refine blk_alloc ?_ _)); refine blk_far ?_ NB101_112.out _; (with_reducible repeat (first | refine blk_drewN ?_ _ | refine blk_drew ?_ | refine blk_alloc ?_ _)); refine blk_far ?_ NB101_112.out _; (with_reducible repeat (first | refine blk_drewN ?_ _ | refine blk_drew ?_ | refine blk_alloc ?_ _)); refine blk_far ?_ NB101_112.out _; (with_reducible repeat (first | refine blk_drewN ?_ _ | refine blk_drew ?_ | refine blk_alloc ?_ _)); refine blk_far ?_ NB101_112.out _; (with_reducible repeat (first | refine blk_drewN ?_ _ | refine blk_drew ?_ | refine blk_alloc ?_ _)); exact BK101.out) hg (by simp [Value.ownBlock])); have n1_ := Aside0.mk (blk_grown (g := gb102) (o := .cells #[.int .i64 0, .int .i64 0] 57 (0, 0)) (by (with_reducible repeat (first | refine blk_drewN ?_ _ | refine blk_drew ?_ | refine blk_alloc ?_ _)); refine blk_far ?_ NB102_112.out _; (with_reducible repeat (first | refine blk_drewN ?_ _ | refine blk_drew ?_ | refine blk_alloc ?_ _)); refine blk_far ?_ NB102_112.out _; (with_reducible repeat (first | refine blk_drewN ?_ _ | refine blk_drew ?_ | refine blk_alloc ?_ _)); refine blk_far ?_ NB102_112.out _; (with_reducible repeat (first | refine blk_drewN ?_ _ | refine blk_drew ?_ | refine blk_alloc ?_ _)); refine blk_far ?_ NB102_112.out _; (with_reducible repeat (first | refine blk_drewN ?_ _ | refine blk_drew ?_ | refine blk_alloc ?_ _)); refine blk_far ?_ NB102_112.out _; (with_reducible repeat (first | refine blk_drewN ?_ _ | refine blk_drew ?_ | refine blk_alloc ?_ _)); refine blk_far ?_ NB102_112.out _; (with_reducible repeat (first | refine blk_drewN ?_ _ | refine blk_drew ?_ | refine blk_alloc ?_ _)); exact BK102.out) hg (by simp [Value.ownBlock])); have n2_ := Aside0.mk (blk_grown (g := gb112) (o := .cells #[.int .i64 t104, .int .i64 t105, .int .i64 t106, .string t107, .string t108, .int .i64 t109] 116 (0, 0)) qy112 hg (by simp [Value.ownBlock])); have n3_ := Aside0.mk (hb); have n4_ := Aside0.mk (ho); clear BK101; clear BK102; clear BK112; clear HB; have BK101 := n0_; have BK102 := n1_; have BK112 := n2_; have HB := n3_; have HO115 := n4_; clear n0_ n1_ n2_ n3_ n4_; clear ho hb hg hat) | ((with_reducible refine gate_dst (N := 50) rfl ?_); refine goesI_ (some 50) rfl rfl rfl rfl (inv_wants t104 t105 t106 t107 t108 t109 _) ?_; (with_reducible refine (prog_goes_next.calls t104 t105 t116 t117 _ A18.out).mono ?_); rintro e w31 ⟨rfl, hb⟩; refine ⟨_, rfl, ?_⟩; have n0_ := Aside0.mk (Kd.R_below (by (with_reducible repeat (first | apply Kd.R_alloc | apply Kd.R_drewN | apply Kd.R_drew)); exact HO115.out) hb); have n1_ := qn101 (g := gb101) hb; have n2_ := qn102 (g := gb102) hb; have n3_ := qn112 (g := gb112) hb; have n4_ := qs hb; clear HO115; clear BK101; clear BK102; clear BK112; clear HB; have HO115 := n0_; have BK101 := n1_; have BK102 := n2_; have BK112 := n3_; have HB := n4_; clear n0_ n1_ n2_ n3_ n4_; (try clear hb)) | ((with_reducible refine gate_dst (N := 15) rfl ?_); refine box_event ?hg (N := 15) ?hd (cs := #[.int .i64 0, .int .i64 0]) (t := 57) ?hr ?_; (case hd => rfl); (case hg => rfl); (case hr => first | (go_simp; done) | (go_simp; rfl)); intro gb118 hg w32 hbox hb; have n0_ := Aside0.mk (Kd.R_below (by (with_reducible repeat (first | apply Kd.R_alloc | apply Kd.R_drewN | apply Kd.R_drew)); exact HO115.out) hb); have n1_ := qn101 (g := gb101) hb; have n2_ := qn102 (g := gb102) hb; have n3_ := qn112 (g := gb112) hb; have n4_ := qs hb; have n5_ := Aside0.mk (hbox); have n6_ := Aside0.mk ((by rw [hg]; exact (below_size qb) : w.heap.size ≤ gb118)); have n7_ := Aside0.mk ((by rw [hg]; exact (below_size qb) : w.heap.size ≤ gb118)); have n8_ := Aside0.mk ((by rw [hg]; exact Nat.ne_of_lt (blk_lt (g := gb101) (o := .cells #[.int .i64 a1_0, .int .i64 a1_1] 57 (0, 0)) (by (with_reducible repeat (first | refine blk_drewN ?_ _ | refine blk_drew ?_ | refine blk_alloc ?_ _)); exact BK101.out)) : gb101 ≠ gb118)); have n9_ := Aside0.mk ((by rw [hg]; exact Nat.ne_of_gt (blk_lt (g := gb101) (o := .cells #[.int .i64 a1_0, .int .i64 a1_1] 57 (0, 0)) (by (with_reducible repeat (first | refine blk_drewN ?_ _ | refine blk_drew ?_ | refine blk_alloc ?_ _)); exact BK101.out)) : gb118 ≠ gb101)); have n10_ := Aside0.mk ((by rw [hg]; exact Nat.ne_of_lt (blk_lt (g := gb102) (o := .cells #[.int .i64 0, .int .i64 0] 57 (0, 0)) (by (with_reducible repeat (first | refine blk_drewN ?_ _ | refine blk_drew ?_ | refine blk_alloc ?_ _)); exact BK102.out)) : gb102 ≠ gb118)); have n11_ := Aside0.mk ((by rw [hg]; exact Nat.ne_of_gt (blk_lt (g := gb102) (o := .cells #[.int .i64 0, .int .i64 0] 57 (0, 0)) (by (with_reducible repeat (first | refine blk_drewN ?_ _ | refine blk_drew ?_ | refine blk_alloc ?_ _)); exact BK102.out)) : gb118 ≠ gb102)); have n12_ := Aside0.mk ((by rw [hg]; exact Nat.ne_of_lt (blk_lt (g := gb112) (o := .cells #[.int .i64 t104, .int .i64 t105, .int .i64 t106, .string t107, .string t108, .int .i64 t109] 116 (0, 0)) (by (with_reducible repeat (first | refine blk_drewN ?_ _ | refine blk_drew ?_ | refine blk_alloc ?_ _)); exact BK112.out)) : gb112 ≠ gb118)); have n13_ := Aside0.mk ((by rw [hg]; exact Nat.ne_of_gt (blk_lt (g := gb112) (o := .cells #[.int .i64 t104, .int .i64 t105, .int .i64 t106, .string t107, .string t108, .int .i64 t109] 116 (0, 0)) (by (with_reducible repeat (first | refine blk_drewN ?_ _ | refine blk_drew ?_ | refine blk_alloc ?_ _)); exact BK112.out)) : gb118 ≠ gb112)); clear HO115; clear BK101; clear BK102; clear BK112; clear HB; have HO115 := n0_; have BK101 := n1_; have BK102 := n2_; have BK112 := n3_; have HB := n4_; have BK118 := n5_; have GW118 := n6_; have GE118 := n7_; have NB101_118 := n8_; have NB118_101 := n9_; have NB102_118 := n10_; have NB118_102 := n11_; have NB112_118 := n12_; have NB118_112 := n13_; clear n0_ n1_ n2_ n3_ n4_ n5_ n6_ n7_ n8_ n9_ n10_ n11_ n12_ n13_; clear hb hbox hg; have hnb33 := NB118_101.out; have hnc33 := NB101_118.out; have hnb34 := NB118_102.out; have hnc34 := NB102_118.out; have hnb35 := NB118_112.out; have hnc35 := NB112_118.out; obtain ⟨_, _, _, _⟩ := q2 BK118.out))
     have n0_ : Aside0 (Kd.R k72 72 ((w32.setCell ⟨gb118, 0, none⟩ (.int .i64 t116)).setCell ⟨gb118, 1, none⟩ (.int .i64 t117)) w.heap.size (fun _ => True) v114 y113) := ⟨by (with_reducible repeat (first | apply Kd.R_alloc | apply Kd.R_drewN | apply Kd.R_drew)); exact Kd.R_mono (Kd.R_far (p := ⟨gb118, 1, none⟩) (Kd.R_far (p := ⟨gb118, 0, none⟩) (Kd.R_types HO115.out BK118.out (by decide)) (fun _ hk => hk.2) (.int .i64 t116)) (fun _ hk => hk.2) (.int .i64 t117)) (fun _ hk => trivial)⟩
     have n1_ : Aside0 (((w32.setCell ⟨gb118, 0, none⟩ (.int .i64 t116)).setCell ⟨gb118, 1, none⟩ (.int .i64 t117)).heap[gb101]? = some (.cells #[.int .i64 a1_0, .int .i64 a1_1] 57 (0, 0))) := ⟨by (with_reducible repeat (first | refine blk_drewN ?_ _ | refine blk_drew ?_ | refine blk_alloc ?_ _)); refine blk_far ?_ NB101_118.out _; (with_reducible repeat (first | refine blk_drewN ?_ _ | refine blk_drew ?_ | refine blk_alloc ?_ _)); refine blk_far ?_ NB101_118.out _; (with_reducible repeat (first | refine blk_drewN ?_ _ | refine blk_drew ?_ | refine blk_alloc ?_ _)); exact BK101.out⟩
     have n2_ : Aside0 (((w32.setCell ⟨gb118, 0, none⟩ (.int .i64 t116)).setCell ⟨gb118, 1, none⟩ (.int .i64 t117)).heap[gb102]? = some (.cells #[.int .i64 0, .int .i64 0] 57 (0, 0))) := ⟨by (with_reducible repeat (first | refine blk_drewN ?_ _ | refine blk_drew ?_ | refine blk_alloc ?_ _)); refine blk_far ?_ NB102_118.out _; (with_reducible repeat (first | refine blk_drewN ?_ _ | refine blk_drew ?_ | refine blk_alloc ?_ _)); refine blk_far ?_ NB102_118.out _; (with_reducible repeat (first | refine blk_drewN ?_ _ | refine blk_drew ?_ | refine blk_alloc ?_ _)); exact BK102.out⟩
     have n3_ : Aside0 (((w32.setCell ⟨gb118, 0, none⟩ (.int .i64 t116)).setCell ⟨gb118, 1, none⟩ (.int .i64 t117)).heap[gb112]? = some (.cells #[.int .i64 t104, .int .i64 t105, .int .i64 t106, .string t107, .string t108, .int .i64 t109] 116 (0, 0))) := ⟨by (with_reducible repeat (first | refine blk_drewN ?_ _ | refine blk_drew ?_ | refine blk_alloc ?_ _)); refine blk_far ?_ NB112_118.out _; (with_reducible repeat (first | refine blk_drewN ?_ _ | refine blk_drew ?_ | refine blk_alloc ?_ _)); refine blk_far ?_ NB112_118.out _; (with_reducible repeat (first | refine blk_drewN ?_ _ | refine blk_drew ?_ | refine blk_alloc ?_ _)); exact BK112.out⟩
     have n4_ : Aside0 (((w32.setCell ⟨gb118, 0, none⟩ (.int .i64 t116)).setCell ⟨gb118, 1, none⟩ (.int .i64 t117)).heap[gb118]? = some (.cells #[.int .i64 t116, .int .i64 t117] 57 (0, 0))) := qY118
     have n5_ : Aside0 (Below w.heap.size w ((w32.setCell ⟨gb118, 0, none⟩ (.int .i64 t116)).setCell ⟨gb118, 1, none⟩ (.int .i64 t117))) := qB
     generalize ((w32.setCell ⟨gb118, 0, none⟩ (.int .i64 t116)).setCell ⟨gb118, 1, none⟩ (.int .i64 t117)) = w37 at n0_ n1_ n2_ n3_ n4_ n5_ ⊢
     have HO115 := n0_
     have BK101 := n1_
     have BK102 := n2_
     have BK112 := n3_
     have BK118 := n4_
     have HB := n5_
     clear n0_ n1_ n2_ n3_ n4_ n5_
     replace HO115 := Aside0.mk (Kd.R_drew HO115.out)
     replace BK101 := Aside0.mk (blk_drew BK101.out)
     replace BK102 := Aside0.mk (blk_drew BK102.out)
     replace BK112 := Aside0.mk (blk_drew BK112.out)
     replace BK118 := Aside0.mk (blk_drew BK118.out)
     replace HB := Aside0.mk (below_drew1 HB.out)
     refine start_ (n := 11) (S := fun w' => w'.cell? ⟨gb118, 0, none⟩ = some (.int .i64 t116) ∧ w'.cell? ⟨gb118, 1, none⟩ = some (.int .i64 t117)) (ds := []) #[Z,Z,Z,Z,Z,Z,Z,Z,Z,Z,Z] (by kernel_rfl) rfl rfl ⟨(blk_cell BK118.out 0).trans rfl, (blk_cell BK118.out 1).trans rfl⟩ (fun hHeld => ?_); refine with_tabW prog_Scan.tab13 prog_Scan.bits13 (fun HT_ HW_ => ?_)
     generalize w37.drew = w38 at HO115 BK101 BK102 BK112 BK118 HB hHeld ⊢
     refine qpu 1 (some 52) ?_
     refine qpu 2 (some 53) ?_
     refine qpu 4 (some 55) ?_
     refine qpu 5 (some 56) ?_
     refine qtw2 0 (some 51) hHeld ?_
     refine qtw2 3 (some 54) hHeld ?_
     refine qpu 6 (some 57) ?_
     refine one_ (i := 7) (N := none) #[Y,Y,Y,Y,Y,Y,Y,Y,Z,Z,Z] rfl rfl (one_of HT_.out (by kernel_rfl)) (by decide) (fun K hK => ?_)
     have hs39 : w38.cell? ⟨gb102, 0, none⟩ = some (.int .i64 0) := (blk_cell BK102.out 0).trans rfl
     have hfs39 := blk_frozen BK102.out 0
     have hns39_0 := NB101_102.out
     have hns39_2 := NB112_102.out
     have hns39_3 := NB118_102.out
     have hms39_0 := NB102_101.out
     have hms39_2 := NB102_112.out
     have hms39_3 := NB102_118.out
     have hs40 : w38.cell? ⟨gb102, 1, none⟩ = some (.int .i64 0) := (blk_cell BK102.out 1).trans rfl
     have hfs40 := blk_frozen BK102.out 1
     have hns40_0 := NB101_102.out
     have hns40_2 := NB112_102.out
     have hns40_3 := NB118_102.out
     have hms40_0 := NB102_101.out
     have hms40_2 := NB102_112.out
     have hms40_3 := NB102_118.out
     refine skip_ (w1 := ?_) (by rfl) rfl ?_ ?_
     rotate_left
     ·go_simp
      rfl
     refine hK.out _ _ ⟨((cell_far (p := ⟨gb102, _, none⟩) NB118_102.out _).trans (((cell_far (p := ⟨gb102, _, none⟩) NB118_102.out _).trans (hHeld.1)))), ((cell_far (p := ⟨gb102, _, none⟩) NB118_102.out _).trans (((cell_far (p := ⟨gb102, _, none⟩) NB118_102.out _).trans (hHeld.2))))⟩ (fun hHeld => ?_)
     clear hK K
     refine qpu 8 (some 7) ?_
     refine qpu 9 (some 8) ?_
     refine qpu 10 (some 9) ?_
     refine done_ (done_of HT_.out (by kernel_rfl)) ?_
     try go_wp2
     refine bodyPost_ret (results_list (rs := [.cell 6 57, .tmp 7, .tmp 8, .tmp 9]) rfl (by simp) (.cell gb102 57 #[.int .i64 t116, .int .i64 t117] (0, 0) _ rfl qy102 Tryd.underlying57 rfl (by kernel_rfl) (.tmp (.tmp (.tmp .nil))))) rfl ?_
     exact ⟨_, by first | rfl | (simp [errW_none, errW_some] <;> rfl) | (simp [*, errW_none, errW_some] <;> rfl), by (with_reducible repeat (first | apply Kd.R_alloc | apply Kd.R_drewN | apply Kd.R_drew)); exact Kd.R_mono (Kd.R_far (p := ⟨gb102, 1, none⟩) (Kd.R_far (p := ⟨gb102, 0, none⟩) (Kd.R_types HO115.out BK102.out (by decide)) (fun _ hk => hk.2) (.int .i64 t116)) (fun _ hk => hk.2) (.int .i64 t117)) (fun _ hk => trivial), qb⟩
    rw [if_neg c17] at H
    exact absurd H (by simp)
   rw [if_neg c16] at H
   have C16 := Aside0.mk ((step_mark A14.out C15.out).resolve_right c16)
   obtain ⟨c16b0, c16b1⟩ := qd c16
   replace H := qi H
   obtain ⟨⟨t119, t120⟩, A41, H⟩ := H
   replace H : (some (t119, t120, ([] : List (S72)), (t119 == (l0.length : Int)), 0)) = some (r1, r2, r3, r4, r5) := H
   simp only [Option.some.injEq, Prod.mk.injEq] at H
   obtain ⟨rfl, rfl, rfl, rfl, rfl⟩ := H
   have hAs_ := fun w_ => as_goes t104 t105 w_
   go_enter Tryd.func38, Tryd.ntmps38
   try go_wp2_with (first | ((with_reducible refine gate_dst (N := 4) rfl ?_); refine box_event ?hg (N := 4) ?hd (cs := #[.int .i64 a1_0, .int .i64 a1_1]) (t := 57) ?hr ?_; (case hd => rfl); (case hg => rfl); (case hr => first | (go_simp; done) | (go_simp; rfl)); intro gb101 hg w42 hbox hb; have n0_ := qs hb; have n1_ := Aside0.mk (hbox); have n2_ := Aside0.mk ((by rw [hg]; exact (below_size qb) : w.heap.size ≤ gb101)); have n3_ := Aside0.mk ((by rw [hg]; exact (below_size qb) : w.heap.size ≤ gb101)); clear HB; have HB := n0_; have BK101 := n1_; have GW101 := n2_; have GE101 := n3_; clear n0_ n1_ n2_ n3_; clear hb hbox hg) | ((with_reducible refine gate_dst (N := 6) rfl ?_); refine box_event ?hg (N := 6) ?hd (cs := #[.int .i64 0, .int .i64 0]) (t := 57) ?hr ?_; (case hd => rfl); (case hg => rfl); (case hr => first | (go_simp; done) | (go_simp; rfl)); intro gb102 hg w43 hbox hb; have n0_ := qn101 (g := gb101) hb; have n1_ := qs hb; have n2_ := Aside0.mk (hbox); have n3_ := Aside0.mk ((by rw [hg]; exact (below_size qb) : w.heap.size ≤ gb102)); have n4_ := Aside0.mk ((by rw [hg]; exact (below_size qb) : w.heap.size ≤ gb102)); have n5_ := Aside0.mk ((by rw [hg]; exact Nat.ne_of_lt (blk_lt (g := gb101) (o := .cells #[.int .i64 a1_0, .int .i64 a1_1] 57 (0, 0)) (by (with_reducible repeat (first | refine blk_drewN ?_ _ | refine blk_drew ?_ | refine blk_alloc ?_ _)); exact BK101.out)) : gb101 ≠ gb102)); have n6_ := Aside0.mk ((by rw [hg]; exact Nat.ne_of_gt (blk_lt (g := gb101) (o := .cells #[.int .i64 a1_0, .int .i64 a1_1] 57 (0, 0)) (by (with_reducible repeat (first | refine blk_drewN ?_ _ | refine blk_drew ?_ | refine blk_alloc ?_ _)); exact BK101.out)) : gb102 ≠ gb101)); clear BK101; clear HB; have BK101 := n0_; have HB := n1_; have BK102 := n2_; have GW102 := n3_; have GE102 := n4_; have NB101_102 := n5_; have NB102_101 := n6_; clear n0_ n1_ n2_ n3_ n4_ n5_ n6_; clear hb hbox hg; have hnb44 := NB101_102.out; have hnc44 := NB102_101.out; obtain ⟨_, _, _, _⟩ := q2 BK101.out) | ((with_reducible refine gate_callee (f := 41) rfl ?_); refine goesL_ (some 18) rfl rfl Tryd.func41 (by kernel_rfl) rfl #[.slice A0 l0.length c0, .agg #[.int .i64 a1_0, .int .i64 a1_1]] rfl qm ?_; (with_reducible refine (prog_Right.calls _ _ l0 a1_0 a1_1 true _ ?side1 ?side2 A4.out).mono ?_); (case side1 => exact qC HR0.out); (case side2 => exact HC0.out); rintro e w46 ⟨rfl, hb⟩; refine ⟨_, rfl, ?_⟩; have n0_ := qn101 (g := gb101) hb; have n1_ := qn102 (g := gb102) hb; have n2_ := qs hb; clear BK101; clear BK102; clear HB; have BK101 := n0_; have BK102 := n1_; have HB := n2_; clear n0_ n1_ n2_; (try clear hb); obtain ⟨_, _, _, _⟩ := q2 BK101.out) | ((with_reducible refine gate_callee (f := 70) rfl ?_); refine goesL_ (some 31) rfl rfl Tryd.func70 (by kernel_rfl) rfl #[.slice A0 l0.length c0, .agg #[.int .i64 a1_0, .int .i64 a1_1], .slice A2 l2.length c2] rfl qm ?_; (with_reducible refine (step_goes C16.out k _ _ l0 a1_0 a1_1 _ _ l2 t104 t105 t106 t107 t108 t109 t110 t111 _ ?side1 ?side2 ?side3 ?side4 A14.out (by first | exact HT0.out | exact UT.below HT0.out qb)).mono ?_); (case side1 => exact qC HR0.out); (case side2 => exact HC0.out); (case side3 => exact qC HR2.out); (case side4 => exact HC2.out); rintro e w48 ⟨rfl, hb⟩; refine ⟨_, rfl, ?_⟩; have n0_ := qn101 (g := gb101) hb; have n1_ := qn102 (g := gb102) hb; have n2_ := qs hb; clear BK101; clear BK102; clear HB; have BK101 := n0_; have BK102 := n1_; have HB := n2_; clear n0_ n1_ n2_; (try clear hb)) | ((with_reducible refine gate_dst (N := 13) rfl ?_); refine box_event ?hg (N := 13) ?hd (cs := #[.int .i64 0, .int .i64 0, .int .i64 0, .string (⟨#[]⟩ : ByteArray), .string (⟨#[]⟩ : ByteArray), .int .i64 0]) (t := 116) ?hr ?_; (case hd => rfl); (case hg => rfl); (case hr => first | (go_simp; done) | (go_simp; rfl)); intro gb112 hg w49 hbox hb; have n0_ := qn101 (g := gb101) hb; have n1_ := qn102 (g := gb102) hb; have n2_ := qs hb; have n3_ := Aside0.mk (hbox); have n4_ := Aside0.mk ((by rw [hg]; exact (below_size qb) : w.heap.size ≤ gb112)); have n5_ := Aside0.mk ((by rw [hg]; exact (below_size qb) : w.heap.size ≤ gb112)); have n6_ := Aside0.mk ((by rw [hg]; exact Nat.ne_of_lt (blk_lt (g := gb101) (o := .cells #[.int .i64 a1_0, .int .i64 a1_1] 57 (0, 0)) (by (with_reducible repeat (first | refine blk_drewN ?_ _ | refine blk_drew ?_ | refine blk_alloc ?_ _)); exact BK101.out)) : gb101 ≠ gb112)); have n7_ := Aside0.mk ((by rw [hg]; exact Nat.ne_of_gt (blk_lt (g := gb101) (o := .cells #[.int .i64 a1_0, .int .i64 a1_1] 57 (0, 0)) (by (with_reducible repeat (first | refine blk_drewN ?_ _ | refine blk_drew ?_ | refine blk_alloc ?_ _)); exact BK101.out)) : gb112 ≠ gb101)); have n8_ := Aside0.mk ((by rw [hg]; exact Nat.ne_of_lt (blk_lt (g := gb102) (o := .cells #[.int .i64 0, .int .i64 0] 57 (0, 0)) (by (with_reducible repeat (first | refine blk_drewN ?_ _ | refine blk_drew ?_ | refine blk_alloc ?_ _)); exact BK102.out)) : gb102 ≠ gb112)); have n9_ := Aside0.mk ((by rw [hg]; exact Nat.ne_of_gt (blk_lt (g := gb102) (o := .cells #[.int .i64 0, .int .i64 0] 57 (0, 0)) (by (with_reducible repeat (first | refine blk_drewN ?_ _ | refine blk_drew ?_ | refine blk_alloc ?_ _)); exact BK102.out)) : gb112 ≠ gb102)); clear BK101; clear BK102; clear HB; have BK101 := n0_; have BK102 := n1_; have HB := n2_; have BK112 := n3_; have GW112 := n4_; have GE112 := n5_; have NB101_112 := n6_; have NB112_101 := n7_; have NB102_112 := n8_; have NB112_102 := n9_; clear n0_ n1_ n2_ n3_ n4_ n5_ n6_ n7_ n8_ n9_; clear hb hbox hg; have hnb50 := NB112_101.out; have hnc50 := NB101_112.out; have hnb51 := NB112_102.out; have hnc51 := NB102_112.out; obtain ⟨_, _, _, _, _, _, _, _, _, _, _, _⟩ := q6 BK112.out) | ((with_reducible refine gate_dst (N := 50) rfl ?_); refine goesI_ (some 50) rfl rfl rfl rfl (inv_goes t104 t105 _) ?_; (with_reducible refine (prog_goes_next.calls t104 t105 t119 t120 _ A41.out).mono ?_); rintro e w53 ⟨rfl, hb⟩; refine ⟨_, rfl, ?_⟩; have n0_ := Aside0.mk (blk_below (g := gb101) (o := .cells #[.int .i64 a1_0, .int .i64 a1_1] 57 (0, 0)) (by (with_reducible repeat (first | refine blk_drewN ?_ _ | refine blk_drew ?_ | refine blk_alloc ?_ _)); refine blk_far ?_ NB101_112.out _; (with_reducible repeat (first | refine blk_drewN ?_ _ | refine blk_drew ?_ | refine blk_alloc ?_ _)); refine blk_far ?_ NB101_112.out _; (with_reducible repeat (first | refine blk_drewN ?_ _ | refine blk_drew ?_ | refine blk_alloc ?_ _)); refine blk_far ?_ NB101_112.out _; (with_reducible repeat (first | refine blk_drewN ?_ _ | refine blk_drew ?_ | refine blk_alloc ?_ _)); refine blk_far ?_ NB101_112.out _; (with_reducible repeat (first | refine blk_drewN ?_ _ | refine blk_drew ?_ | refine blk_alloc ?_ _)); refine blk_far ?_ NB101_112.out _; (with_reducible repeat (first | refine blk_drewN ?_ _ | refine blk_drew ?_ | refine blk_alloc ?_ _)); refine blk_far ?_ NB101_112.out _; (with_reducible repeat (first | refine blk_drewN ?_ _ | refine blk_drew ?_ | refine blk_alloc ?_ _)); exact BK101.out) hb); have n1_ := Aside0.mk (blk_below (g := gb102) (o := .cells #[.int .i64 0, .int .i64 0] 57 (0, 0)) (by (with_reducible repeat (first | refine blk_drewN ?_ _ | refine blk_drew ?_ | refine blk_alloc ?_ _)); refine blk_far ?_ NB102_112.out _; (with_reducible repeat (first | refine blk_drewN ?_ _ | refine blk_drew ?_ | refine blk_alloc ?_ _)); refine blk_far ?_ NB102_112.out _; (with_reducible repeat (first | refine blk_drewN ?_ _ | refine blk_drew ?_ | refine blk_alloc ?_ _)); refine blk_far ?_ NB102_112.out _; (with_reducible repeat (first | refine blk_drewN ?_ _ | refine blk_drew ?_ | refine blk_alloc ?_ _)); refine blk_far ?_ NB102_112.out _; (with_reducible repeat (first | refine blk_drewN ?_ _ | refine blk_drew ?_ | refine blk_alloc ?_ _)); refine blk_far ?_ NB102_112.out _; (with_reducible repeat (first | refine blk_drewN ?_ _ | refine blk_drew ?_ | refine blk_alloc ?_ _)); refine blk_far ?_ NB102_112.out _; (with_reducible repeat (first | refine blk_drewN ?_ _ | refine blk_drew ?_ | refine blk_alloc ?_ _)); exact BK102.out) hb); have n2_ := Aside0.mk (blk_below (g := gb112) (o := .cells #[.int .i64 0, .int .i64 0, .int .i64 0, .string (⟨#[]⟩ : ByteArray), .string (⟨#[]⟩ : ByteArray), .int .i64 0] 116 (0, 0)) qy112 hb); have n3_ := qs hb; clear BK101; clear BK102; clear BK112; clear HB; have BK101 := n0_; have BK102 := n1_; have BK112 := n2_; have HB := n3_; clear n0_ n1_ n2_ n3_; (try clear hb)) | ((with_reducible refine gate_dst (N := 15) rfl ?_); refine box_event ?hg (N := 15) ?hd (cs := #[.int .i64 0, .int .i64 0]) (t := 57) ?hr ?_; (case hd => rfl); (case hg => rfl); (case hr => first | (go_simp; done) | (go_simp; rfl)); intro gb121 hg w54 hbox hb; have n0_ := qn101 (g := gb101) hb; have n1_ := qn102 (g := gb102) hb; have n2_ := qn112 (g := gb112) hb; have n3_ := qs hb; have n4_ := Aside0.mk (hbox); have n5_ := Aside0.mk ((by rw [hg]; exact (below_size qb) : w.heap.size ≤ gb121)); have n6_ := Aside0.mk ((by rw [hg]; exact (below_size qb) : w.heap.size ≤ gb121)); have n7_ := Aside0.mk ((by rw [hg]; exact Nat.ne_of_lt (blk_lt (g := gb101) (o := .cells #[.int .i64 a1_0, .int .i64 a1_1] 57 (0, 0)) (by (with_reducible repeat (first | refine blk_drewN ?_ _ | refine blk_drew ?_ | refine blk_alloc ?_ _)); exact BK101.out)) : gb101 ≠ gb121)); have n8_ := Aside0.mk ((by rw [hg]; exact Nat.ne_of_gt (blk_lt (g := gb101) (o := .cells #[.int .i64 a1_0, .int .i64 a1_1] 57 (0, 0)) (by (with_reducible repeat (first | refine blk_drewN ?_ _ | refine blk_drew ?_ | refine blk_alloc ?_ _)); exact BK101.out)) : gb121 ≠ gb101)); have n9_ := Aside0.mk ((by rw [hg]; exact Nat.ne_of_lt (blk_lt (g := gb102) (o := .cells #[.int .i64 0, .int .i64 0] 57 (0, 0)) (by (with_reducible repeat (first | refine blk_drewN ?_ _ | refine blk_drew ?_ | refine blk_alloc ?_ _)); exact BK102.out)) : gb102 ≠ gb121)); have n10_ := Aside0.mk ((by rw [hg]; exact Nat.ne_of_gt (blk_lt (g := gb102) (o := .cells #[.int .i64 0, .int .i64 0] 57 (0, 0)) (by (with_reducible repeat (first | refine blk_drewN ?_ _ | refine blk_drew ?_ | refine blk_alloc ?_ _)); exact BK102.out)) : gb121 ≠ gb102)); have n11_ := Aside0.mk ((by rw [hg]; exact Nat.ne_of_lt (blk_lt (g := gb112) (o := .cells #[.int .i64 0, .int .i64 0, .int .i64 0, .string (⟨#[]⟩ : ByteArray), .string (⟨#[]⟩ : ByteArray), .int .i64 0] 116 (0, 0)) (by (with_reducible repeat (first | refine blk_drewN ?_ _ | refine blk_drew ?_ | refine blk_alloc ?_ _)); exact BK112.out)) : gb112 ≠ gb121)); have n12_ := Aside0.mk ((by rw [hg]; exact Nat.ne_of_gt (blk_lt (g := gb112) (o := .cells #[.int .i64 0, .int .i64 0, .int .i64 0, .string (⟨#[]⟩ : ByteArray), .string (⟨#[]⟩ : ByteArray), .int .i64 0] 116 (0, 0)) (by (with_reducible repeat (first | refine blk_drewN ?_ _ | refine blk_drew ?_ | refine blk_alloc ?_ _)); exact BK112.out)) : gb121 ≠ gb112)); clear BK101; clear BK102; clear BK112; clear HB; have BK101 := n0_; have BK102 := n1_; have BK112 := n2_; have HB := n3_; have BK121 := n4_; have GW121 := n5_; have GE121 := n6_; have NB101_121 := n7_; have NB121_101 := n8_; have NB102_121 := n9_; have NB121_102 := n10_; have NB112_121 := n11_; have NB121_112 := n12_; clear n0_ n1_ n2_ n3_ n4_ n5_ n6_ n7_ n8_ n9_ n10_ n11_ n12_; clear hb hbox hg; have hnb55 := NB121_101.out; have hnc55 := NB101_121.out; have hnb56 := NB121_102.out; have hnc56 := NB102_121.out; have hnb57 := NB121_112.out; have hnc57 := NB112_121.out; obtain ⟨_, _, _, _⟩ := q2 BK121.out))
   have n0_ : Aside0 (((w54.setCell ⟨gb121, 0, none⟩ (.int .i64 t119)).setCell ⟨gb121, 1, none⟩ (.int .i64 t120)).heap[gb101]? = some (.cells #[.int .i64 a1_0, .int .i64 a1_1] 57 (0, 0))) := ⟨by (with_reducible repeat (first | refine blk_drewN ?_ _ | refine blk_drew ?_ | refine blk_alloc ?_ _)); refine blk_far ?_ NB101_121.out _; (with_reducible repeat (first | refine blk_drewN ?_ _ | refine blk_drew ?_ | refine blk_alloc ?_ _)); refine blk_far ?_ NB101_121.out _; (with_reducible repeat (first | refine blk_drewN ?_ _ | refine blk_drew ?_ | refine blk_alloc ?_ _)); exact BK101.out⟩
   have n1_ : Aside0 (((w54.setCell ⟨gb121, 0, none⟩ (.int .i64 t119)).setCell ⟨gb121, 1, none⟩ (.int .i64 t120)).heap[gb102]? = some (.cells #[.int .i64 0, .int .i64 0] 57 (0, 0))) := ⟨by (with_reducible repeat (first | refine blk_drewN ?_ _ | refine blk_drew ?_ | refine blk_alloc ?_ _)); refine blk_far ?_ NB102_121.out _; (with_reducible repeat (first | refine blk_drewN ?_ _ | refine blk_drew ?_ | refine blk_alloc ?_ _)); refine blk_far ?_ NB102_121.out _; (with_reducible repeat (first | refine blk_drewN ?_ _ | refine blk_drew ?_ | refine blk_alloc ?_ _)); exact BK102.out⟩
   have n2_ : Aside0 (((w54.setCell ⟨gb121, 0, none⟩ (.int .i64 t119)).setCell ⟨gb121, 1, none⟩ (.int .i64 t120)).heap[gb112]? = some (.cells #[.int .i64 0, .int .i64 0, .int .i64 0, .string (⟨#[]⟩ : ByteArray), .string (⟨#[]⟩ : ByteArray), .int .i64 0] 116 (0, 0))) := ⟨by (with_reducible repeat (first | refine blk_drewN ?_ _ | refine blk_drew ?_ | refine blk_alloc ?_ _)); refine blk_far ?_ NB112_121.out _; (with_reducible repeat (first | refine blk_drewN ?_ _ | refine blk_drew ?_ | refine blk_alloc ?_ _)); refine blk_far ?_ NB112_121.out _; (with_reducible repeat (first | refine blk_drewN ?_ _ | refine blk_drew ?_ | refine blk_alloc ?_ _)); exact BK112.out⟩
   have n3_ : Aside0 (((w54.setCell ⟨gb121, 0, none⟩ (.int .i64 t119)).setCell ⟨gb121, 1, none⟩ (.int .i64 t120)).heap[gb121]? = some (.cells #[.int .i64 t119, .int .i64 t120] 57 (0, 0))) := ⟨by (with_reducible repeat (first | refine blk_drewN ?_ _ | refine blk_drew ?_ | refine blk_alloc ?_ _)); refine blk_put (cs := #[.int .i64 t119, .int .i64 0]) ?_ 1 _ rfl; (with_reducible repeat (first | refine blk_drewN ?_ _ | refine blk_drew ?_ | refine blk_alloc ?_ _)); refine blk_put (cs := #[.int .i64 0, .int .i64 0]) ?_ 0 _ rfl; (with_reducible repeat (first | refine blk_drewN ?_ _ | refine blk_drew ?_ | refine blk_alloc ?_ _)); exact BK121.out⟩
   have n4_ : Aside0 (Below w.heap.size w ((w54.setCell ⟨gb121, 0, none⟩ (.int .i64 t119)).setCell ⟨gb121, 1, none⟩ (.int .i64 t120))) := qB
   generalize ((w54.setCell ⟨gb121, 0, none⟩ (.int .i64 t119)).setCell ⟨gb121, 1, none⟩ (.int .i64 t120)) = w59 at n0_ n1_ n2_ n3_ n4_ ⊢
   have BK101 := n0_
   have BK102 := n1_
   have BK112 := n2_
   have BK121 := n3_
   have HB := n4_
   clear n0_ n1_ n2_ n3_ n4_
   replace BK101 := Aside0.mk (blk_drew BK101.out)
   replace BK102 := Aside0.mk (blk_drew BK102.out)
   replace BK112 := Aside0.mk (blk_drew BK112.out)
   replace BK121 := Aside0.mk (blk_drew BK121.out)
   replace HB := Aside0.mk (below_drew1 HB.out)
   refine start_ (n := 11) (S := fun w' => w'.cell? ⟨gb121, 0, none⟩ = some (.int .i64 t119) ∧ w'.cell? ⟨gb121, 1, none⟩ = some (.int .i64 t120)) (ds := []) #[Z,Z,Z,Z,Z,Z,Z,Z,Z,Z,Z] (by kernel_rfl) rfl rfl ⟨(blk_cell BK121.out 0).trans rfl, (blk_cell BK121.out 1).trans rfl⟩ (fun hHeld => ?_); refine with_tabW prog_Scan.tab13 prog_Scan.bits13 (fun HT_ HW_ => ?_)
   generalize w59.drew = w60 at BK101 BK102 BK112 BK121 HB hHeld ⊢
   refine qpu 1 (some 52) ?_
   refine qpu 2 (some 53) ?_
   refine qpu 4 (some 55) ?_
   refine qpu 5 (some 56) ?_
   refine qtw2 0 (some 51) hHeld ?_
   refine qtw2 3 (some 54) hHeld ?_
   refine qpu 6 (some 57) ?_
   refine one_ (i := 7) (N := none) #[Y,Y,Y,Y,Y,Y,Y,Y,Z,Z,Z] rfl rfl (one_of HT_.out (by kernel_rfl)) (by decide) (fun K hK => ?_)
   have hs61 : w60.cell? ⟨gb102, 0, none⟩ = some (.int .i64 0) := (blk_cell BK102.out 0).trans rfl
   have hfs61 := blk_frozen BK102.out 0
   have hns61_0 := NB101_102.out
   have hns61_2 := NB112_102.out
   have hns61_3 := NB121_102.out
   have hms61_0 := NB102_101.out
   have hms61_2 := NB102_112.out
   have hms61_3 := NB102_121.out
   have hs62 : w60.cell? ⟨gb102, 1, none⟩ = some (.int .i64 0) := (blk_cell BK102.out 1).trans rfl
   have hfs62 := blk_frozen BK102.out 1
   have hns62_0 := NB101_102.out
   have hns62_2 := NB112_102.out
   have hns62_3 := NB121_102.out
   have hms62_0 := NB102_101.out
   have hms62_2 := NB102_112.out
   have hms62_3 := NB102_121.out
   refine skip_ (w1 := ?_) (by rfl) rfl ?_ ?_
   rotate_left
   ·go_simp
    rfl
   refine hK.out _ _ ⟨((cell_far (p := ⟨gb102, _, none⟩) NB121_102.out _).trans (((cell_far (p := ⟨gb102, _, none⟩) NB121_102.out _).trans (hHeld.1)))), ((cell_far (p := ⟨gb102, _, none⟩) NB121_102.out _).trans (((cell_far (p := ⟨gb102, _, none⟩) NB121_102.out _).trans (hHeld.2))))⟩ (fun hHeld => ?_)
   clear hK K
   refine qpu 8 (some 7) ?_
   refine qpu 9 (some 8) ?_
   refine qpu 10 (some 9) ?_
   refine done_ (done_of HT_.out (by kernel_rfl)) ?_
   try go_wp2
   refine bodyPost_ret (results_list (rs := [.cell 6 57, .tmp 7, .tmp 8, .tmp 9]) rfl (by simp) (.cell gb102 57 #[.int .i64 t119, .int .i64 t120] (0, 0) _ rfl qy102 Tryd.underlying57 rfl (by kernel_rfl) (.tmp (.tmp (.tmp .nil))))) rfl ?_
   exact ⟨_, by first | rfl | (simp [errW_none, errW_some] <;> rfl) | (simp [*, errW_none, errW_some] <;> rfl), by first | exact Kd.R_nil _ _ _ _ _ | exact Kd.N_nil _ _ _ _ _ | exact Kd.V_nil _ _ _ _ _ | exact Kd.Q_nil _ _ _ _ _ | exact Kd.S_nil _ _ _ _ _, qb⟩
  rw [if_neg c15] at H
  obtain ⟨c15b0, c15b1⟩ := qd c15
  simp only [Option.some.injEq, Prod.mk.injEq] at H
  obtain ⟨rfl, rfl, rfl, rfl, rfl⟩ := H
  go_enter Tryd.func38, Tryd.ntmps38
  go_wp2_with (first | ((with_reducible refine gate_dst (N := 4) rfl ?_); refine box_event ?hg (N := 4) ?hd (cs := #[.int .i64 a1_0, .int .i64 a1_1]) (t := 57) ?hr ?_; (case hd => rfl); (case hg => rfl); (case hr => first | (go_simp; done) | (go_simp; rfl)); intro gb101 hg w63 hbox hb; have n0_ := qs hb; have n1_ := Aside0.mk (hbox); have n2_ := Aside0.mk ((by rw [hg]; exact (below_size qb) : w.heap.size ≤ gb101)); have n3_ := Aside0.mk ((by rw [hg]; exact (below_size qb) : w.heap.size ≤ gb101)); clear HB; have HB := n0_; have BK101 := n1_; have GW101 := n2_; have GE101 := n3_; clear n0_ n1_ n2_ n3_; clear hb hbox hg) | ((with_reducible refine gate_dst (N := 6) rfl ?_); refine box_event ?hg (N := 6) ?hd (cs := #[.int .i64 0, .int .i64 0]) (t := 57) ?hr ?_; (case hd => rfl); (case hg => rfl); (case hr => first | (go_simp; done) | (go_simp; rfl)); intro gb102 hg w64 hbox hb; have n0_ := qn101 (g := gb101) hb; have n1_ := qs hb; have n2_ := Aside0.mk (hbox); have n3_ := Aside0.mk ((by rw [hg]; exact (below_size qb) : w.heap.size ≤ gb102)); have n4_ := Aside0.mk ((by rw [hg]; exact (below_size qb) : w.heap.size ≤ gb102)); have n5_ := Aside0.mk ((by rw [hg]; exact Nat.ne_of_lt (blk_lt (g := gb101) (o := .cells #[.int .i64 a1_0, .int .i64 a1_1] 57 (0, 0)) (by (with_reducible repeat (first | refine blk_drewN ?_ _ | refine blk_drew ?_ | refine blk_alloc ?_ _)); exact BK101.out)) : gb101 ≠ gb102)); have n6_ := Aside0.mk ((by rw [hg]; exact Nat.ne_of_gt (blk_lt (g := gb101) (o := .cells #[.int .i64 a1_0, .int .i64 a1_1] 57 (0, 0)) (by (with_reducible repeat (first | refine blk_drewN ?_ _ | refine blk_drew ?_ | refine blk_alloc ?_ _)); exact BK101.out)) : gb102 ≠ gb101)); clear BK101; clear HB; have BK101 := n0_; have HB := n1_; have BK102 := n2_; have GW102 := n3_; have GE102 := n4_; have NB101_102 := n5_; have NB102_101 := n6_; clear n0_ n1_ n2_ n3_ n4_ n5_ n6_; clear hb hbox hg; have hnb65 := NB101_102.out; have hnc65 := NB102_101.out; obtain ⟨_, _, _, _⟩ := q2 BK101.out) | ((with_reducible refine gate_callee (f := 41) rfl ?_); refine goesL_ (some 18) rfl rfl Tryd.func41 (by kernel_rfl) rfl #[.slice A0 l0.length c0, .agg #[.int .i64 a1_0, .int .i64 a1_1]] rfl qm ?_; (with_reducible refine (prog_Right.calls _ _ l0 a1_0 a1_1 true _ ?side1 ?side2 A4.out).mono ?_); (case side1 => exact qC HR0.out); (case side2 => exact HC0.out); rintro e w67 ⟨rfl, hb⟩; refine ⟨_, rfl, ?_⟩; have n0_ := qn101 (g := gb101) hb; have n1_ := qn102 (g := gb102) hb; have n2_ := qs hb; clear BK101; clear BK102; clear HB; have BK101 := n0_; have BK102 := n1_; have HB := n2_; clear n0_ n1_ n2_; (try clear hb); obtain ⟨_, _, _, _⟩ := q2 BK101.out) | ((with_reducible refine gate_callee (f := 70) rfl ?_); refine goesL_ (some 31) rfl rfl Tryd.func70 (by kernel_rfl) rfl #[.slice A0 l0.length c0, .agg #[.int .i64 a1_0, .int .i64 a1_1], .slice A2 l2.length c2] rfl qm ?_; (with_reducible refine (prog_step.calls k _ _ l0 a1_0 a1_1 _ _ l2 t104 t105 t106 t107 t108 t109 t110 t111 _ ?side1 ?side2 ?side3 ?side4 A14.out (by first | exact HT0.out | exact UT.below HT0.out qb)).mono ?_); (case side1 => exact qC HR0.out); (case side2 => exact HC0.out); (case side3 => exact qC HR2.out); (case side4 => exact HC2.out); rintro e w69 ⟨rfl, hb⟩; refine ⟨_, rfl, ?_⟩; have n0_ := qn101 (g := gb101) hb; have n1_ := qn102 (g := gb102) hb; have n2_ := qs hb; clear BK101; clear BK102; clear HB; have BK101 := n0_; have BK102 := n1_; have HB := n2_; clear n0_ n1_ n2_; (try clear hb); obtain ⟨_, _, _, _⟩ := q2 BK101.out; obtain ⟨_, _, _, _⟩ := q2 BK102.out))
  refine bodyPost_ret (results_list (rs := [.cell 6 57, .tmp 7, .tmp 8, .tmp 9]) rfl (by simp) (.cell gb102 57 #[.int .i64 a1_0, .int .i64 a1_1] (0, 0) _ rfl qy102 Tryd.underlying57 rfl (by kernel_rfl) (.tmp (.tmp (.tmp .nil))))) rfl ?_
  exact ⟨_, by first | rfl | (simp [errW_none, errW_some] <;> rfl) | (simp [*, errW_none, errW_some] <;> rfl), by first | exact Kd.R_nil _ _ _ _ _ | exact Kd.N_nil _ _ _ _ _ | exact Kd.V_nil _ _ _ _ _ | exact Kd.Q_nil _ _ _ _ _ | exact Kd.S_nil _ _ _ _ _, qb⟩
 replace c5 := Bool.eq_false_iff.mpr c5
 subst c5
 rw [if_neg qf] at H
 simp only [Option.some.injEq, Prod.mk.injEq] at H
 obtain ⟨rfl, rfl, rfl, rfl, rfl⟩ := H
 go_enter Tryd.func38, Tryd.ntmps38
 go_wp2_with (first | ((with_reducible refine gate_dst (N := 4) rfl ?_); refine box_event ?hg (N := 4) ?hd (cs := #[.int .i64 a1_0, .int .i64 a1_1]) (t := 57) ?hr ?_; (case hd => rfl); (case hg => rfl); (case hr => first | (go_simp; done) | (go_simp; rfl)); intro gb101 hg w72 hbox hb; have n0_ := qs hb; have n1_ := Aside0.mk (hbox); have n2_ := Aside0.mk ((by rw [hg]; exact (below_size qb) : w.heap.size ≤ gb101)); have n3_ := Aside0.mk ((by rw [hg]; exact (below_size qb) : w.heap.size ≤ gb101)); clear HB; have HB := n0_; have BK101 := n1_; have GW101 := n2_; have GE101 := n3_; clear n0_ n1_ n2_ n3_; clear hb hbox hg) | ((with_reducible refine gate_dst (N := 6) rfl ?_); refine box_event ?hg (N := 6) ?hd (cs := #[.int .i64 0, .int .i64 0]) (t := 57) ?hr ?_; (case hd => rfl); (case hg => rfl); (case hr => first | (go_simp; done) | (go_simp; rfl)); intro gb102 hg w73 hbox hb; have n0_ := qn101 (g := gb101) hb; have n1_ := qs hb; have n2_ := Aside0.mk (hbox); have n3_ := Aside0.mk ((by rw [hg]; exact (below_size qb) : w.heap.size ≤ gb102)); have n4_ := Aside0.mk ((by rw [hg]; exact (below_size qb) : w.heap.size ≤ gb102)); have n5_ := Aside0.mk ((by rw [hg]; exact Nat.ne_of_lt (blk_lt (g := gb101) (o := .cells #[.int .i64 a1_0, .int .i64 a1_1] 57 (0, 0)) (by (with_reducible repeat (first | refine blk_drewN ?_ _ | refine blk_drew ?_ | refine blk_alloc ?_ _)); exact BK101.out)) : gb101 ≠ gb102)); have n6_ := Aside0.mk ((by rw [hg]; exact Nat.ne_of_gt (blk_lt (g := gb101) (o := .cells #[.int .i64 a1_0, .int .i64 a1_1] 57 (0, 0)) (by (with_reducible repeat (first | refine blk_drewN ?_ _ | refine blk_drew ?_ | refine blk_alloc ?_ _)); exact BK101.out)) : gb102 ≠ gb101)); clear BK101; clear HB; have BK101 := n0_; have HB := n1_; have BK102 := n2_; have GW102 := n3_; have GE102 := n4_; have NB101_102 := n5_; have NB102_101 := n6_; clear n0_ n1_ n2_ n3_ n4_ n5_ n6_; clear hb hbox hg; have hnb74 := NB101_102.out; have hnc74 := NB102_101.out; obtain ⟨_, _, _, _⟩ := q2 BK101.out) | ((with_reducible refine gate_callee (f := 41) rfl ?_); refine goesL_ (some 18) rfl rfl Tryd.func41 (by kernel_rfl) rfl #[.slice A0 l0.length c0, .agg #[.int .i64 a1_0, .int .i64 a1_1]] rfl qm ?_; (with_reducible refine (prog_Right.calls _ _ l0 a1_0 a1_1 false _ ?side1 ?side2 A4.out).mono ?_); (case side1 => exact qC HR0.out); (case side2 => exact HC0.out); rintro e w76 ⟨rfl, hb⟩; refine ⟨_, rfl, ?_⟩; have n0_ := qn101 (g := gb101) hb; have n1_ := qn102 (g := gb102) hb; have n2_ := qs hb; clear BK101; clear BK102; clear HB; have BK101 := n0_; have BK102 := n1_; have HB := n2_; clear n0_ n1_ n2_; (try clear hb); obtain ⟨_, _, _, _⟩ := q2 BK102.out))
 refine bodyPost_ret (results_list (rs := [.cell 6 57, .tmp 7, .tmp 8, .tmp 9]) rfl (by simp) (.cell gb102 57 #[.int .i64 0, .int .i64 0] (0, 0) _ rfl qy102 Tryd.underlying57 rfl (by kernel_rfl) (.tmp (.tmp (.tmp .nil))))) rfl ?_
 exact ⟨_, by first | rfl | (simp [errW_none, errW_some] <;> rfl) | (simp [*, errW_none, errW_some] <;> rfl), by first | exact Kd.R_nil _ _ _ _ _ | exact Kd.N_nil _ _ _ _ _ | exact Kd.V_nil _ _ _ _ _ | exact Kd.Q_nil _ _ _ _ _ | exact Kd.S_nil _ _ _ _ _, qb⟩
end Go.Proofs.YtiaccdaeomaogaaDoor.F
