/- Texts of one claim, slimmed and merged by slim.py. -/
import Derived.Test.YtiaccdaeomaogaaDoorA4
import Derived.Test.YtiaccdaeomaogaaDoorA18
namespace Go.Proofs.YtiaccdaeomaogaaDoor.F
open Go.RowKit Go.Proofs.YtiaccdaeomaogaaDoorW.PrintWords Go.Proofs.YtiaccdaeomaogaaDoorW.PrintLast Go.Proofs.YtiaccdaeomaogaaDoorW.PrintMore
attribute [local go_sem] max2_int min2_int max_two min_two max_three min_three max_four min_four   -- for this text's walks alone
set_option linter.unusedVariables false
set_option linter.unusedSimpArgs false
def phase_in.f (a0_0 : Int) (a0_1 : Int) (a0_2 : Int) (a0_3 : Int) (a0_4 : Int) (a0_5 : Bool) (a0_6 : Int) (l0_7 : List (S69)) (a1 : Int) : Option (Int × Int × Int × Int × Int × Bool × Int × (List (S69))) := (api_Cell_86.f l0_7).bind fun t103 => (some (a1, a0_1, a0_2, 0, 0, a0_5, a0_6, t103))
set_option maxHeartbeats 8000000 in
set_option maxRecDepth 100000 in
theorem phase_in.calls (a0_0 : Int) (a0_1 : Int) (a0_2 : Int) (a0_3 : Int) (a0_4 : Int) (a0_5 : Bool) (a0_6 : Int) (A0_7 : Option Addr) (c0_7 : Nat) (l0_7 : List (S69)) (a1 : Int) (r1 : Int) (r2 : Int) (r3 : Int) (r4 : Int) (r5 : Int) (r6 : Bool) (r7 : Int) (r8 : List (S69)) (w : World) (hr0_7 : Kd.C k69 w A0_7 l0_7.length l0_7) (hc0_7 : l0_7.length ≤ c0_7) (h : phase_in.f a0_0 a0_1 a0_2 a0_3 a0_4 a0_5 a0_6 l0_7 a1 = some (r1, r2, r3, r4, r5, r6, r7, r8)) :
    Calls Tryd.prog 85 #[.agg #[.int .i64 a0_0, .int .i64 a0_1, .int .i64 a0_2, .int .i64 a0_3, .int .i64 a0_4, .bool a0_5, .int .i64 a0_6, .slice A0_7 l0_7.length c0_7], .int .i64 a1] w fun e w' => ∃ v7_ : Value, e = .returned (.agg #[.int .i64 r1, .int .i64 r2, .int .i64 r3, .int .i64 r4, .int .i64 r5, .bool r6, .int .i64 r7, v7_]) ∧ Kd.R k69 69 w' w.heap.size (fun _ => True) v7_ r8 ∧ Below w.heap.size w w' := by
  have hu82 := Tryd.underlying82
  have hu57 := Tryd.underlying57
  have HR0_7 := Aside0.mk hr0_7
  have HC0_7 := Aside0.mk hc0_7
  clear hr0_7 hc0_7
  have HB := Aside0.mk (Below.refl w.heap.size w)
  have H : ((api_Cell_86.f l0_7).bind fun t103 => (some (a1, a0_1, a0_2, 0, 0, a0_5, a0_6, t103))) = some (r1, r2, r3, r4, r5, r6, r7, r8) := h
  clear h
  replace H := qi H
  obtain ⟨t103, A3, H⟩ := H
  simp only [Option.some.injEq, Prod.mk.injEq] at H
  obtain ⟨rfl, rfl, rfl, rfl, rfl, rfl, rfl, rfl⟩ := H
  go_enter Tryd.func85, Tryd.ntmps85
  go_wp2_with (first | ((with_reducible refine gate_dst (N := 2) rfl ?_); refine box_event ?hg (N := 2) ?hd (cs := #[.int .i64 a0_0, .int .i64 a0_1, .int .i64 a0_2, .int .i64 a0_3, .int .i64 a0_4, .bool a0_5, .int .i64 a0_6, .slice A0_7 l0_7.length c0_7]) (t := 82) ?hr ?_; (case hd => rfl); (case hg => rfl); (case hr => first | (go_simp; done) | (go_simp; rfl)); intro gb101 hg w4 hbox hb; have n0_ := qs hb; have n1_ := Aside0.mk (hbox); have n2_ := Aside0.mk ((by rw [hg]; exact (below_size qb) : w.heap.size ≤ gb101)); have n3_ := Aside0.mk ((by rw [hg]; exact (below_size qb) : w.heap.size ≤ gb101)); clear HB; have HB := n0_; have BK101 := n1_; have GW101 := n2_; have GE101 := n3_; clear n0_ n1_ n2_ n3_; clear hb hbox hg) | ((with_reducible refine gate_dst (N := 4) rfl ?_); refine box_event ?hg (N := 4) ?hd (cs := #[.int .i64 0, .int .i64 0, .int .i64 0, .int .i64 0, .int .i64 0, .bool false, .int .i64 0, .slice none 0 0]) (t := 82) ?hr ?_; (case hd => rfl); (case hg => rfl); (case hr => first | (go_simp; done) | (go_simp; rfl)); intro gb102 hg w5 hbox hb; have n0_ := qn101 (g := gb101) hb; have n1_ := qs hb; have n2_ := Aside0.mk (hbox); have n3_ := Aside0.mk ((by rw [hg]; exact (below_size qb) : w.heap.size ≤ gb102)); have n4_ := Aside0.mk ((by rw [hg]; exact (below_size qb) : w.heap.size ≤ gb102)); have n5_ := Aside0.mk ((by rw [hg]; exact Nat.ne_of_lt (blk_lt (g := gb101) (o := .cells #[.int .i64 a0_0, .int .i64 a0_1, .int .i64 a0_2, .int .i64 a0_3, .int .i64 a0_4, .bool a0_5, .int .i64 a0_6, .slice A0_7 l0_7.length c0_7] 82 (0, 0)) (by (with_reducible repeat (first | refine blk_drewN ?_ _ | refine blk_drew ?_ | refine blk_alloc ?_ _)); exact BK101.out)) : gb101 ≠ gb102)); have n6_ := Aside0.mk ((by rw [hg]; exact Nat.ne_of_gt (blk_lt (g := gb101) (o := .cells #[.int .i64 a0_0, .int .i64 a0_1, .int .i64 a0_2, .int .i64 a0_3, .int .i64 a0_4, .bool a0_5, .int .i64 a0_6, .slice A0_7 l0_7.length c0_7] 82 (0, 0)) (by (with_reducible repeat (first | refine blk_drewN ?_ _ | refine blk_drew ?_ | refine blk_alloc ?_ _)); exact BK101.out)) : gb102 ≠ gb101)); clear BK101; clear HB; have BK101 := n0_; have HB := n1_; have BK102 := n2_; have GW102 := n3_; have GE102 := n4_; have NB101_102 := n5_; have NB102_101 := n6_; clear n0_ n1_ n2_ n3_ n4_ n5_ n6_; clear hb hbox hg; have hnb6 := NB101_102.out; have hnc6 := NB102_101.out; obtain ⟨_, _, _, _, _, _, _, _, _, _, _, _, _, _, _, _⟩ := q8 BK101.out) | ((with_reducible refine gate_callee (f := 86) rfl ?_); refine goesL_ (some 9) rfl rfl Tryd.func86 (by kernel_rfl) rfl #[.slice A0_7 l0_7.length c0_7] rfl qm ?_; (with_reducible refine (api_Cell_86.calls _ _ l0_7 t103 _ ?side1 ?side2 A3.out).mono ?_); (case side1 => exact qC HR0_7.out); (case side2 => exact HC0_7.out); rintro e w8 ⟨v104, rfl, ho0, hb⟩; refine ⟨_, rfl, ?_⟩; have n0_ := Aside0.mk (Kd.R_lower ho0 (below_size qb)); have n1_ := qn101 (g := gb101) hb; have n2_ := qn102 (g := gb102) hb; have n3_ := qs hb; clear BK101; clear BK102; clear HB; have HO105 := n0_; have BK101 := n1_; have BK102 := n2_; have HB := n3_; clear n0_ n1_ n2_ n3_; (try clear hb); (try clear ho0); obtain ⟨_, _, _, _, _, _, _, _, _, _, _, _, _, _, _, _⟩ := q8 BK101.out; obtain ⟨Ao10, co10, eo10⟩ := Kd.R_slice HO105.out; subst eo10; obtain ⟨_, _, _, _, _, _, _, _, _, _, _, _, _, _, _, _⟩ := q8 BK102.out))
  refine bodyPost_ret (results_cell_row rfl _ _ gb102 82 #[.int .i64 a1, .int .i64 a0_1, .int .i64 a0_2, .int .i64 0, .int .i64 0, .bool a0_5, .int .i64 a0_6, .slice Ao10 t103.length co10] (0, 0) _ rfl (by (with_reducible repeat (first | refine blk_drewN ?_ _ | refine blk_drew ?_ | refine blk_alloc ?_ _)); refine blk_put (cs := #[.int .i64 a1, .int .i64 a0_1, .int .i64 a0_2, .int .i64 0, .int .i64 0, .bool a0_5, .int .i64 a0_6, .slice none 0 0]) ?_ 7 _ rfl; (with_reducible repeat (first | refine blk_drewN ?_ _ | refine blk_drew ?_ | refine blk_alloc ?_ _)); refine blk_put (cs := #[.int .i64 a1, .int .i64 a0_1, .int .i64 a0_2, .int .i64 0, .int .i64 0, .bool a0_5, .int .i64 0, .slice none 0 0]) ?_ 6 _ rfl; (with_reducible repeat (first | refine blk_drewN ?_ _ | refine blk_drew ?_ | refine blk_alloc ?_ _)); refine blk_put (cs := #[.int .i64 a1, .int .i64 a0_1, .int .i64 a0_2, .int .i64 0, .int .i64 0, .bool false, .int .i64 0, .slice none 0 0]) ?_ 5 _ rfl; (with_reducible repeat (first | refine blk_drewN ?_ _ | refine blk_drew ?_ | refine blk_alloc ?_ _)); refine blk_put (cs := #[.int .i64 a1, .int .i64 a0_1, .int .i64 a0_2, .int .i64 0, .int .i64 0, .bool false, .int .i64 0, .slice none 0 0]) ?_ 4 _ rfl; (with_reducible repeat (first | refine blk_drewN ?_ _ | refine blk_drew ?_ | refine blk_alloc ?_ _)); refine blk_put (cs := #[.int .i64 a1, .int .i64 a0_1, .int .i64 a0_2, .int .i64 0, .int .i64 0, .bool false, .int .i64 0, .slice none 0 0]) ?_ 3 _ rfl; (with_reducible repeat (first | refine blk_drewN ?_ _ | refine blk_drew ?_ | refine blk_alloc ?_ _)); refine blk_put (cs := #[.int .i64 a1, .int .i64 a0_1, .int .i64 0, .int .i64 0, .int .i64 0, .bool false, .int .i64 0, .slice none 0 0]) ?_ 2 _ rfl; (with_reducible repeat (first | refine blk_drewN ?_ _ | refine blk_drew ?_ | refine blk_alloc ?_ _)); refine blk_put (cs := #[.int .i64 a1, .int .i64 0, .int .i64 0, .int .i64 0, .int .i64 0, .bool false, .int .i64 0, .slice none 0 0]) ?_ 1 _ rfl; (with_reducible repeat (first | refine blk_drewN ?_ _ | refine blk_drew ?_ | refine blk_alloc ?_ _)); refine blk_put (cs := #[.int .i64 0, .int .i64 0, .int .i64 0, .int .i64 0, .int .i64 0, .bool false, .int .i64 0, .slice none 0 0]) ?_ 0 _ rfl; (with_reducible repeat (first | refine blk_drewN ?_ _ | refine blk_drew ?_ | refine blk_alloc ?_ _)); refine blk_far ?_ NB102_101.out _; (with_reducible repeat (first | refine blk_drewN ?_ _ | refine blk_drew ?_ | refine blk_alloc ?_ _)); refine blk_far ?_ NB102_101.out _; (with_reducible repeat (first | refine blk_drewN ?_ _ | refine blk_drew ?_ | refine blk_alloc ?_ _)); refine blk_far ?_ NB102_101.out _; (with_reducible repeat (first | refine blk_drewN ?_ _ | refine blk_drew ?_ | refine blk_alloc ?_ _)); refine blk_far ?_ NB102_101.out _; (with_reducible repeat (first | refine blk_drewN ?_ _ | refine blk_drew ?_ | refine blk_alloc ?_ _)); exact BK102.out) Tryd.underlying82 rfl (by kernel_rfl)) rfl ?_
  exact ⟨_, by first | rfl | (simp [errW_none, errW_some] <;> rfl) | (simp [*, errW_none, errW_some] <;> rfl), by (with_reducible repeat (first | apply Kd.R_alloc | apply Kd.R_drewN | apply Kd.R_drew)); exact Kd.R_mono (Kd.R_far (p := ⟨gb102, 7, none⟩) (Kd.R_far (p := ⟨gb102, 6, none⟩) (Kd.R_far (p := ⟨gb102, 5, none⟩) (Kd.R_far (p := ⟨gb102, 4, none⟩) (Kd.R_far (p := ⟨gb102, 3, none⟩) (Kd.R_far (p := ⟨gb102, 2, none⟩) (Kd.R_far (p := ⟨gb102, 1, none⟩) (Kd.R_far (p := ⟨gb102, 0, none⟩) (Kd.R_far (p := ⟨gb101, 7, none⟩) (Kd.R_far (p := ⟨gb101, 4, none⟩) (Kd.R_far (p := ⟨gb101, 3, none⟩) (Kd.R_far (p := ⟨gb101, 0, none⟩) (Kd.R_types (Kd.R_types HO105.out BK101.out (by decide)) BK102.out (by decide)) (fun _ hk => hk.1.2) (.int .i64 a1)) (fun _ hk => hk.1.2) (.int .i64 0)) (fun _ hk => hk.1.2) (.int .i64 0)) (fun _ hk => hk.1.2) (.slice Ao10 t103.length co10)) (fun _ hk => hk.2) (.int .i64 a1)) (fun _ hk => hk.2) (.int .i64 a0_1)) (fun _ hk => hk.2) (.int .i64 a0_2)) (fun _ hk => hk.2) (.int .i64 0)) (fun _ hk => hk.2) (.int .i64 0)) (fun _ hk => hk.2) (.bool a0_5)) (fun _ hk => hk.2) (.int .i64 a0_6)) (fun _ hk => hk.2) (.slice Ao10 t103.length co10)) (fun _ hk => trivial), qb⟩
end Go.Proofs.YtiaccdaeomaogaaDoor.F
namespace Go.Proofs.YtiaccdaeomaogaaDoor.F
open Go.RowKit Go.Proofs.YtiaccdaeomaogaaDoorW.PrintWords Go.Proofs.YtiaccdaeomaogaaDoorW.PrintLast Go.Proofs.YtiaccdaeomaogaaDoorW.PrintMore
set_option linter.unusedVariables false
set_option linter.unusedSimpArgs false
structure PutIn (g : Nat) (w w' : World) : Prop where
  below : Below g w w'
  rest : ∀ k, k ≠ g → w'.heap[k]? = w.heap[k]?
theorem put_event {P : Program} {ops : Array Oper} {rest : List Oper} {o : Oper} {a : Act} {Q : Exit → Act → World → Prop} {W : World} (hgd : o.guard = none) (hN : o.dst = none) {t : TypeId} {x y : Operand} (ho : o.op = .store t x y)
    {g off : Nat} {e : TypeId} {cur : Array Value} (seg : List Value) (hb : W.heap[g]? = some (.cells cur e (0, 0))) (hx : a.eval x = .pointer (some ⟨g, off, none⟩)) (hy : (a.eval y).cells.toList = seg)
    (ht : (P.info? t).map (·.size) = some seg.length) (hfit : off + seg.length ≤ cur.size) (h1 : seg.all (fun q => q.oneCell') = true)
    (cs : Array Value) (hcs : cs.toList = cur.toList.take off ++ seg ++ cur.toList.drop (off + seg.length))
    (h : ∀ w1, w1.heap[g]? = some (.cells cs e (0, 0)) → PutIn g W w1 → wpList P ops Q rest a w1) : wpList P ops Q (o :: rest) a W := by
  obtain ⟨cur', h3, h4, h5⟩ := setCells_row seg off W cur hb hfit
  have e1 : cur' = cs := by rw [← Array.toArray_toList (xs := cur'), ← Array.toArray_toList (xs := cs), h5, hcs]
  subst e1
  obtain ⟨s1, s2, s3, s4⟩ := setCells_same g seg off W
  have h1' : ∀ q ∈ seg, q.oneCell' = true := fun q hq => List.all_eq_true.1 h1 q hq
  have hrun : (execOp a.eval o).run P W = .ok .skip (W.setCells g off seg) := by
    have h7 := run_store_run (P := P) t (a.eval y) seg hb hy ht hfit h1'
    unfold execOp
    rw [ho]
    simp only [hx, Sem.run_bind, h7]
    rfl
  refine wpList_plain hgd fun K hK => ?_
  unfold Oper.wp
  rw [hrun]
  show K (a.put o.dst undef) _
  rw [hN]
  exact hK _ _ (h _ h3 ⟨⟨s1, s2, s3, by rw [s4]; exact Nat.le_refl _, fun k hk => setCells_far seg off k (by omega)⟩, fun k hk => setCells_far seg off k hk⟩)
theorem put_run {P : Program} {o : Oper} {a : Act} {W : World} {t : TypeId} {x y : Operand} (ho : o.op = .store t x y)
    {g off : Nat} {e : TypeId} {cur : Array Value} (seg : List Value) (hb : W.heap[g]? = some (.cells cur e (0, 0))) (hx : a.eval x = .pointer (some ⟨g, off, none⟩)) (hy : (a.eval y).cells.toList = seg)
    (ht : (P.info? t).map (·.size) = some seg.length) (hfit : off + seg.length ≤ cur.size) (h1 : seg.all (fun q => q.oneCell') = true)
    (cs : Array Value) (hcs : cs.toList = cur.toList.take off ++ seg ++ cur.toList.drop (off + seg.length)) :
    (execOp a.eval o).run P W = .ok .skip (W.setCells g off seg) ∧ (W.setCells g off seg).heap[g]? = some (.cells cs e (0, 0)) ∧ PutIn g W (W.setCells g off seg) := by
  obtain ⟨cur', h3, h4, h5⟩ := setCells_row seg off W cur hb hfit
  have e1 : cur' = cs := by rw [← Array.toArray_toList (xs := cur'), ← Array.toArray_toList (xs := cs), h5, hcs]
  subst e1
  obtain ⟨s1, s2, s3, s4⟩ := setCells_same g seg off W
  have h1' : ∀ q ∈ seg, q.oneCell' = true := fun q hq => List.all_eq_true.1 h1 q hq
  refine ⟨?_, h3, ⟨⟨s1, s2, s3, by rw [s4]; exact Nat.le_refl _, fun k hk => setCells_far seg off k (by omega)⟩, fun k hk => setCells_far seg off k hk⟩⟩
  have h7 := run_store_run (P := P) t (a.eval y) seg hb hy ht hfit h1'
  unfold execOp
  rw [ho]
  simp only [hx, Sem.run_bind, h7]
  rfl
theorem put_step {P : Program} {ops : Array Oper} {o : Oper} {a : Act} {Q : Exit → Act → World → Prop} {Kc : Act → World → Prop} {W : World} (hw : Region.wanted o (yielded ops a.tmps) = true) (hN : o.dst = none) {t : TypeId} {x y : Operand} (ho : o.op = .store t x y)
    {g off : Nat} {e : TypeId} {cur : Array Value} (seg : List Value) (hb : W.heap[g]? = some (.cells cur e (0, 0))) (hx : a.eval x = .pointer (some ⟨g, off, none⟩)) (hy : (a.eval y).cells.toList = seg)
    (ht : (P.info? t).map (·.size) = some seg.length) (hfit : off + seg.length ≤ cur.size) (h1 : seg.all (fun q => q.oneCell') = true)
    (cs : Array Value) (hcs : cs.toList = cur.toList.take off ++ seg ++ cur.toList.drop (off + seg.length))
    (h : ∀ w1, w1.heap[g]? = some (.cells cs e (0, 0)) → PutIn g W w1 → Kc a w1) : if Region.wanted o (yielded ops a.tmps) = true then Oper.wp P o a W Kc Q else Kc (a.put none undef) W := by
  obtain ⟨h2, h3, h4⟩ := put_run (P := P) ho seg hb hx hy ht hfit h1 cs hcs
  exact skip_ hw hN h2 (h _ h3 h4)
theorem slice_step {P : Program} {ops : Array Oper} {o : Oper} {a : Act} {Q : Exit → Act → World → Prop} {Kc : Act → World → Prop} {W : World} (hw : Region.wanted o (yielded ops a.tmps) = true) {N : Tmp} (_hd : o.dst = some N) {cs : Array Value} {t : TypeId} {n : Nat}
    (hrun : (execOp a.eval o).run P W = .ok (.value (.slice (some ⟨W.heap.size, 0, none⟩) n n)) (W.alloc (.cells cs t (0, 0))))
    (h : ∀ g, g = W.heap.size → ∀ w1, w1.heap[g]? = some (.cells cs t (0, 0)) → Below W.heap.size W w1 → Kc (a.put o.dst (.slice (some ⟨g, 0, none⟩) n n)) w1) : if Region.wanted o (yielded ops a.tmps) = true then Oper.wp P o a W Kc Q else Kc (a.put o.dst undef) W :=
  event_step hw hrun (h _ rfl _ (blk_new W _) (below_alloc (Below.refl _ _) _))
theorem load_event {P : Program} {ops : Array Oper} {rest : List Oper} {o : Oper} {a : Act} {Q : Exit → Act → World → Prop} {W : World} (hgd : o.guard = none) {t : TypeId} {x : Operand} (ho : o.op = .load t x)
  {g off : Nat} {e : TypeId} {cur : Array Value} (seg : List Value) {d : TypeDesc} (hb : W.heap[g]? = some (.cells cur e (0, 0))) (hx : a.eval x = .pointer (some ⟨g, off, none⟩))
  (hseg : (cur.toList.drop off).take seg.length = seg) (hu : P.underlying t = some d) (hd : d.isRow = true) (ht : (P.info? t).map (·.size) = some seg.length)
  (h : wpList P ops Q rest (a.put o.dst (.agg seg.toArray)) W) : wpList P ops Q (o :: rest) a W := by
 refine wpList_load_mid hgd t x ho g off hx seg d (fun j v hv => ?_) hu hd ht h
 rw [blk_cell hb, ← Array.getElem?_toList]
 rw [← hseg, List.getElem?_take] at hv
 split at hv
 ·rw [List.getElem?_drop] at hv; exact hv
 cases hv
theorem R_put {α : Type} {d : Kd α} {e base g t : Nat} {ok : Nat → Prop} {w w1 : World} {v : Value} {xs : List α} {cells : Array Value} (h : d.R e w base ok v xs) (hb : w.heap[g]? = some (.cells cells t (0, 0))) (ht : ∀ q, q ∈ e :: d.E → q ≠ t) (hp : PutIn g w w1) : d.R e w1 base ok v xs :=
  Kd.R_mono (Kd.R_step (Kd.R_types h hb ht) (fun k ho _ => hp.rest k ho.2)) (fun _ h => h.1)
theorem PutIn.blk {g g' : Nat} {w w' : World} {o : Obj} (h : PutIn g w w') (hb : w.heap[g']? = some o) (hne : g' ≠ g) : w'.heap[g']? = some o := (h.rest g' hne).trans hb
end Go.Proofs.YtiaccdaeomaogaaDoor.F
