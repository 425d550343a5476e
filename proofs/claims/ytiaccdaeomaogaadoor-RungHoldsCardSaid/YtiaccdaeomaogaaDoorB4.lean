/- Texts of one claim, slimmed and merged by slim.py. -/
import Derived.Sort.OwnSorted
import Derived.Sort.Grow
import Derived.Lib.OwnBridge
import Derived.Lib.LazyBuf
import Derived.Test.YtiaccdaeomaogaaDoorB2
import Derived.Test.YtiaccdaeomaogaaDoorB3
namespace Go.Proofs.YtiaccdaeomaogaaDoor.F
open Go.RowKit Go.Proofs.YtiaccdaeomaogaaDoorW.PrintWords Go.Proofs.YtiaccdaeomaogaaDoorW.PrintLast Go.Proofs.YtiaccdaeomaogaaDoorW.PrintMore
attribute [local go_sem] max2_int min2_int max_two min_two max_three min_three max_four min_four   -- for this text's walks alone
set_option linter.unusedVariables false
set_option linter.unusedSimpArgs false
mutual
def namesF : Nat → Int → ByteArray → List S34 → List ByteArray → Option (List ByteArray)
  | 0, _, _, _, _ => none
  | k + 1, op, nm, ks, acc => if op = 1 then (if acc.length < 8796093022208 then some (acc ++ [nm]) else none) else namesL k ks acc
def namesL : Nat → List S34 → List ByteArray → Option (List ByteArray)
  | 0, _, _ => none
  | k + 1, ks, acc => match ks with
    | [] => some acc
    | x :: xs => (namesF k x.f0 x.f2 x.f3 acc).bind fun a => namesL k xs a
end
theorem names_mono : ∀ k, (∀ op nm ks acc, LeO (namesF k op nm ks acc) (namesF (k + 1) op nm ks acc)) ∧ (∀ ks acc, LeO (namesL k ks acc) (namesL (k + 1) ks acc))
  | 0 => ⟨fun _ _ _ _ r h => by simp [namesF] at h, fun _ _ r h => by simp [namesL] at h⟩
  | k + 1 => by
    obtain ⟨h1, h2⟩ := names_mono k
    refine ⟨fun op nm ks acc => ?_, fun ks acc => ?_⟩
    · rw [namesF, namesF]
      split
      · exact LeO.refl _
      · exact h2 _ _
    · cases ks with
      | nil => rw [namesL, namesL]; exact LeO.refl _
      | cons x xs => rw [namesL, namesL]; exact LeO.bind (h1 _ _ _ _) (fun _ => h2 _ _)
theorem drop_T34 {l : List S34} {i : Int} (h0 : 0 ≤ i) (h1 : i < l.length) : l.drop i.toNat = rd_T34 l i :: l.drop (i + 1).toNat := by
  have h : i.toNat < l.length := by omega
  rw [show (i + 1).toNat = i.toNat + 1 from by omega, List.drop_eq_getElem_cons h]
  unfold rd_T34; rw [List.getD, List.getElem?_eq_getElem h]; rfl
set_option maxHeartbeats 8000000 in
set_option maxRecDepth 100000 in
theorem names_calls (k : Nat) : ∀ (op n : Int) (nm : ByteArray) (A : Option Addr) (c : Nat) (ks : List S34) (v : Value) (l r : List ByteArray) (W w : World) (hr : Kd.C k34 W A ks.length ks) (hc : ks.length ≤ c) (hB : Below W.heap.size W w) (ho : Kd.R Kd.string 9 w W.heap.size (fun _ => True) v l) (h : namesF k op nm ks l = some r),
  Calls Tryd.prog 138 #[.agg #[.int .i64 op, .int .i64 n, .string nm, .slice A ks.length c], v] w fun e w' => ∃ v', e = .returned v' ∧ Kd.R Kd.string 9 w' W.heap.size (fun _ => True) v' r ∧ Below W.heap.size W w' := by
 induction k using Nat.strongRecOn with
 | _ k ih =>
 intro op n nm A c ks v l r W w hr hc hB ho h
 cases k with
 | zero => simp [namesF] at h
 | succ k =>
 rw [namesF] at h
 have hu34 := Tryd.underlying34
 have HB1 := Aside0.mk hB
 have HO1 := Aside0.mk ho
 have HR := Aside0.mk hr
 have HC := Aside0.mk hc
 clear hr hc hB ho
 by_cases h1 : op = 1
 ·subst h1
  rw [if_pos rfl] at h
  by_cases hl : l.length < 8796093022208
  ·rw [if_pos hl] at h
   obtain rfl := Option.some.inj h
   have HL := Aside0.mk hl
   obtain ⟨Ao, co, eo⟩ := Kd.R_slice HO1.out
   subst eo
   clear h hl
   go_enter Tryd.func138, Tryd.ntmps138
   go_wp2_with (first | ((with_reducible refine gate_dst (N := 2) rfl ?_); refine box_event ?hg (N := 2) ?hd (cs := #[.int .i64 1, .int .i64 n, .string nm, .slice A ks.length c]) (t := 34) ?hr ?_; (case hd => rfl); (case hg => rfl); (case hr => first | (go_simp; done) | (go_simp; rfl)); intro gb hg w4 hbox hb; have HB4 := Aside0.mk (below_step HB1.out hb); have HO4 := Aside0.mk (Kd.R_below HO1.out hb); clear hb hg; have hcz2 : w4.cell? ⟨gb, 2, none⟩ = some (.string nm) := (blk_cell hbox 2).trans rfl; have hcz0 : w4.cell? ⟨gb, 0, none⟩ = some (.int .i64 1) := (blk_cell hbox 0).trans rfl; clear hbox) | ((with_reducible refine gate_builtin (b := .append) (xs := #[.tmp 10, .tmp 13]) rfl ?_); at_builtin; refine Kd.R_append Kd.string (w0 := W) W.heap.size rfl (.tmp 10) (.tmp 13) 23 9 (.string ⟨#[]⟩) 16 rfl Tryd.underlying23 info9 rfl (by decide) (by omega) (.slice Ao l.length co) l nm [.string nm] (fun _ => True) (fun _ => False) rfl rfl ?aP (fun _ hk => hk.elim) ?aF ?aO ?aB ?aS ?aL ?_; (case aP => exact rfl); (case aB => exact HB4.out); (case aF => exact (fun _ _ => trivial)); (case aO => exact HO4.out); (case aS => exact HB4.out.size); (case aL => have := HL.out; omega); intro v2 w2 ho hb hg hat; have HO2 := Aside0.mk ho; have HB2 := Aside0.mk hb; clear ho hb hg hat))
   go_ret
   exact ⟨_, rfl, HO2.out, HB2.out⟩
  ·rw [if_neg hl] at h
   cases h
 ·rw [if_neg h1] at h
  have d1 : (op == 1) = false := beq_eq_false_iff_ne.mpr h1
  have HN := Aside0.mk h
  clear h h1
  go_enter Tryd.func138, Tryd.ntmps138
  go_wp2
  go_loopg [1, 18] ks.length (fun kq v1 v18 w' => ∃ (u : Value) (x : Int) (lc : List ByteArray) (kk : Nat), v1 = u ∧ v18 = .int .i64 x ∧ Aside0 (0 ≤ x ∧ x ≤ (ks.length : Int) ∧ (kq : Int) = ks.length - x) ∧ Aside0 (Kd.R Kd.string 9 w' W.heap.size (fun _ => True) u lc) ∧ Aside0 (Below W.heap.size W w') ∧ Aside0 (kk ≤ k ∧ namesL kk (ks.drop x.toNat) lc = some r))
  case atStart => exact ⟨v, 0, l, k, rfl, rfl, ⟨by omega, by omega, by omega⟩, ⟨by (with_reducible repeat (first | apply Kd.R_alloc | apply Kd.R_drewN | apply Kd.R_drew)); exact HO1.out⟩, ⟨by repeat (first | exact HB1.out | apply below_alloc | apply pw_below_drewN | apply below_drew1)⟩, ⟨Nat.le_refl _, by simpa using HN.out⟩⟩
  case round =>
   clear HN HO1 HB1
   obtain ⟨u, x, lc, kk, rfl, rfl, HK, HO, HB, HN⟩ := hrel
   by_cases hlt : x < (ks.length : Int)
   ·have p1 := HK.out.1
    have q1 := hlt
    obtain ⟨ad, A3, c3, e1, y0, y1, y2, y3, l3, g3⟩ := at_T34 HR.out x p1 q1
    cases e1
    have hx0 := pw_cell_below HB.out y0
    have hx1 := pw_cell_below HB.out y1
    have hx2 := pw_cell_below HB.out y2
    have hx3 := pw_cell_below HB.out y3
    obtain ⟨hk1, hn1⟩ := HN.out
    rw [drop_T34 p1 q1] at hn1
    generalize rd_T34 ks x = y at *
    cases kk with
    | zero => simp [namesL] at hn1
    | succ kk =>
    rw [namesL] at hn1
    obtain ⟨a, ha, hn1⟩ := Option.bind_eq_some_iff.mp hn1
    have HA := Aside0.mk ha
    have HN1 : Aside0 (kk ≤ k ∧ namesL kk (ks.drop (x + 1).toNat) a = some r) := ⟨by omega, hn1⟩
    have HKK : Aside0 (0 ≤ x ∧ x < (ks.length : Int) ∧ (gk : Int) = ks.length - x ∧ kk < k + 1) := ⟨by have := HK.out; omega⟩
    have HG3 := Aside0.mk g3
    have HL3 := Aside0.mk l3
    have c0 : decide (x < (ks.length : Int)) = true := decide_eq_true hlt
    have c1 : decide (0 ≤ x) = true := decide_eq_true p1
    replace p1 := eq_true p1
    replace q1 := eq_true q1
    clear hlt HK HN hk1 hn1 ha y0 y1 y2 y3 l3 g3
    go_wp2_with (first | (go_at_call 138; refine (ih kk (by have := HKK.out; omega) y.f0 y.f1 y.f2 A3 c3 y.f3 _ lc a W _ HG3.out HL3.out ?hb ?ho HA.out).mono ?_; (case hb => repeat (first | exact HB.out | apply below_alloc)); (case ho => (with_reducible repeat (first | apply Kd.R_alloc | apply Kd.R_drewN | apply Kd.R_drew)); exact HO.out); rintro e w5 ⟨v5, rfl, ho, hb⟩; have HO5 := Aside0.mk ho; have HB5 := Aside0.mk hb; clear ho hb))
    go_roundg (gk - 1)
    case measure => have := HKK.out; omega
    case rel => exact ⟨v5, wrap64 (x + 1), a, kk, rfl, rfl, ⟨by have := HKK.out; have := HC.out; have := HR.out.2.1; unfold wrap64; omega⟩, HO5, HB5, ⟨HN1.out.1, by rw [show wrap64 (x + 1) = x + 1 from by have := HKK.out; have := HR.out.2.1; unfold wrap64; omega]; exact HN1.out.2⟩⟩
   ·have he : x = ks.length := by have := HK.out; omega
    subst he
    have c0 : decide ((ks.length : Int) < (ks.length : Int)) = false := decide_eq_false (by omega)
    have hn := HN.out.2
    rw [List.drop_eq_nil_of_le (by omega)] at hn
    have hlr : lc = r := by
     cases kk with
     | zero => simp [namesL] at hn
     | succ kk => rw [namesL] at hn; simpa using hn
    subst hlr
    clear HK hlt hn HN
    go_wp2
    go_ret
    exact ⟨_, rfl, HO.out, HB.out⟩
def srtL (l : List ByteArray) : List (List UInt8) := (l.map (·.data.toList)).mergeSort fun x y => decide (x ≤ y)
def cmpL (l : List ByteArray) : List (List UInt8) := Lib.compact (srtL l)
def ofL (l : List (List UInt8)) : List ByteArray := l.map fun b => ⟨b.toArray⟩
def namesOut (l : List ByteArray) : List ByteArray := ofL (cmpL l)
theorem encs_ofL (l : List (List UInt8)) : encs Value.string (ofL l) = l.map encStr := by
  unfold encs ofL
  rw [List.map_map]
  apply List.map_congr_left
  intro x _
  simp [Proofs.encStr]
theorem namesOut_len (l : List ByteArray) : (namesOut l).length = (cmpL l).length := by simp [namesOut, ofL]
theorem namesOut_nil : namesOut [] = [] := by simp [namesOut, ofL, cmpL, srtL, Lib.compact]; rfl
def expr_Names.f (k : Nat) (a0_0 : Int) (a0_1 : Int) (a0_2 : ByteArray) (l0_3 : List (S34)) : Option (List ByteArray) := (expr_May.f k a0_0 a0_1 a0_2 l0_3).bind fun t => if t = true then ((namesF k a0_0 a0_2 l0_3 []).bind fun l => if l.length < 8796093022208 then some (namesOut l) else none) else some []
theorem expr_Names.mono : ∀ a0 a1 a2 a3 k, LeO (expr_Names.f k a0 a1 a2 a3) (expr_Names.f (k + 1) a0 a1 a2 a3) := by
  intro a0 a1 a2 a3 k
  unfold expr_Names.f
  exact LeO.bind (expr_May.mono _ _ _ _ _) (fun t => LeO.ite (LeO.bind ((names_mono k).1 _ _ _ _) (fun l => LeO.refl _)) (LeO.refl _))
theorem sorted_own {w w1 : World} {g cap nn q : Nat} {os : Array Obj} {l : List ByteArray} (hown : w1.ownsRow w.heap.size 9 1 (.slice (some ⟨g, 0, none⟩) l.length cap) l.length ((l.map (·.data.toList)).map encStr)) (hbel : Below w.heap.size w w1) (hbg : w.heap.size ≤ g) :
  Kd.R Kd.string 9 (Sort.putRow encStr (Sort.ahead (Sort.grow (Sort.putRow encStr (Sort.ahead w1 nn) g 0 (srtL l).toArray) os) q) g 0 (cmpL l ++ List.replicate (l.length - (cmpL l).length) []).toArray) w.heap.size (fun _ => True) (.slice (some ⟨g, 0, none⟩) (cmpL l).length cap) (namesOut l) ∧
  Below w.heap.size w (Sort.putRow encStr (Sort.ahead (Sort.grow (Sort.putRow encStr (Sort.ahead w1 nn) g 0 (srtL l).toArray) os) q) g 0 (cmpL l ++ List.replicate (l.length - (cmpL l).length) []).toArray) := by
 have hl2 : (srtL l).length = l.length := by unfold srtL; rw [List.length_mergeSort, List.length_map]
 have hle : (cmpL l).length ≤ (srtL l).length := Lib.compact_length_le (srtL l)
 rcases hown.2 with ⟨h0, _⟩ | ⟨g', cap', cur, hv, hbase, hb, h1, h2, h3, h4⟩
 ·cases h0
 cases hv
 have hs := ownsRow_sorted (n := nn) (os := os) (ss := srtL l) (ts := srtL l) rfl hbase hb (by rw [hl2]; exact h1) h2 h3
 have hc := Lib.ownsRow_putRow (q := q) (k := (cmpL l).length) (ys := cmpL l ++ List.replicate ((srtL l).length - (cmpL l).length) []) hs (by simp; omega) (by omega)
 rw [List.take_left, hl2] at hc
 refine ⟨Kd.R_of_own ?_ (fun _ _ => trivial), Lib.below_putRow (hbel.grown (grownBy_sorted _) hbel.size (fun j hj => by cases hj; exact hbase)) hbg⟩
 rw [namesOut_len]
 unfold namesOut
 rw [encs_ofL]
 exact hc
set_option maxHeartbeats 8000000 in
set_option maxRecDepth 100000 in
theorem expr_Names.calls (k : Nat) (a0_0 : Int) (a0_1 : Int) (a0_2 : ByteArray) (A0_3 : Option Addr) (c0_3 : Nat) (l0_3 : List (S34)) (r : List ByteArray) (w : World) (hr0_3 : Kd.C k34 w A0_3 l0_3.length l0_3) (hc0_3 : l0_3.length ≤ c0_3) (h : expr_Names.f k a0_0 a0_1 a0_2 l0_3 = some r) (hT : UT w) :
    Calls Tryd.prog 106 #[.agg #[.int .i64 a0_0, .int .i64 a0_1, .string a0_2, .slice A0_3 l0_3.length c0_3]] w fun e w' => ∃ v0_ : Value, e = .returned (v0_) ∧ Kd.R Kd.string 9 w' w.heap.size (fun _ => True) v0_ r ∧ Below w.heap.size w w' := by
  have HT := Aside0.mk hT
  have HR := Aside0.mk hr0_3
  have HC := Aside0.mk hc0_3
  have hu34 := Tryd.underlying34
  unfold expr_Names.f at h
  obtain ⟨t, ht, h⟩ := Option.bind_eq_some_iff.mp h
  have HM := Aside0.mk ht
  clear hT hr0_3 hc0_3 ht
  cases t with
  | false =>
    rw [if_neg (by decide)] at h
    obtain rfl := Option.some.inj h
    clear h
    go_enter Tryd.func106, Tryd.ntmps106
    go_wp2_with (first | ((with_reducible refine gate_dst (N := 1) rfl ?_); refine box_event ?hg (N := 1) ?hd (cs := #[.int .i64 a0_0, .int .i64 a0_1, .string a0_2, .slice A0_3 l0_3.length c0_3]) (t := 34) ?hr ?_; (case hd => rfl); (case hg => rfl); (case hr => first | (go_simp; done) | (go_simp; rfl)); intro gb hg w4 hbox hb; have HB4 := Aside0.mk hb; clear hb hg; have hcz0 : w4.cell? ⟨gb, 0, none⟩ = some (.int .i64 a0_0) := (blk_cell hbox 0).trans rfl; have hcz1 : w4.cell? ⟨gb, 1, none⟩ = some (.int .i64 a0_1) := (blk_cell hbox 1).trans rfl; have hcz2 : w4.cell? ⟨gb, 2, none⟩ = some (.string a0_2) := (blk_cell hbox 2).trans rfl; have hcz3 : w4.cell? ⟨gb, 3, none⟩ = some (.slice A0_3 l0_3.length c0_3) := (blk_cell hbox 3).trans rfl; clear hbox) | (go_at_call 29; refine (expr_May.calls k a0_0 a0_1 a0_2 A0_3 c0_3 l0_3 false _ (Kd.C_below HR.out HB4.out) HC.out HM.out (UT.below HT.out HB4.out)).mono ?_; rintro e w5 ⟨rfl, hb⟩; have HB5 := Aside0.mk (below_step HB4.out hb); clear hb))
    go_ret
    exact ⟨_, rfl, Kd.R_nil _ _ _ _ _, HB5.out⟩
  | true =>
    rw [if_pos rfl] at h
    obtain ⟨l, hl, h⟩ := Option.bind_eq_some_iff.mp h
    by_cases hn : l.length < 8796093022208
    case neg => rw [if_neg hn] at h; cases h
    rw [if_pos hn] at h
    obtain rfl := Option.some.inj h
    have HN := Aside0.mk hl
    have HL := Aside0.mk hn
    clear h hl hn
    by_cases hz : l = []
    · subst hz
      rw [namesOut_nil]
      go_enter Tryd.func106, Tryd.ntmps106
      go_wp2_with (first | ((with_reducible refine gate_dst (N := 1) rfl ?_); refine box_event ?hg (N := 1) ?hd (cs := #[.int .i64 a0_0, .int .i64 a0_1, .string a0_2, .slice A0_3 l0_3.length c0_3]) (t := 34) ?hr ?_; (case hd => rfl); (case hg => rfl); (case hr => first | (go_simp; done) | (go_simp; rfl)); intro gb hg w4 hbox hb; have HB4 := Aside0.mk hb; have HK4 := Aside0.mk hbox; clear hb hg; have hcz0 : w4.cell? ⟨gb, 0, none⟩ = some (.int .i64 a0_0) := (blk_cell hbox 0).trans rfl; have hcz1 : w4.cell? ⟨gb, 1, none⟩ = some (.int .i64 a0_1) := (blk_cell hbox 1).trans rfl; have hcz2 : w4.cell? ⟨gb, 2, none⟩ = some (.string a0_2) := (blk_cell hbox 2).trans rfl; have hcz3 : w4.cell? ⟨gb, 3, none⟩ = some (.slice A0_3 l0_3.length c0_3) := (blk_cell hbox 3).trans rfl; clear hbox) | (go_at_call 29; refine (expr_May.calls k a0_0 a0_1 a0_2 A0_3 c0_3 l0_3 true _ (Kd.C_below HR.out HB4.out) HC.out HM.out (UT.below HT.out HB4.out)).mono ?_; rintro e w5 ⟨rfl, hb⟩; have HB5 := Aside0.mk (below_step HB4.out hb); have hbox := blk_below HK4.out hb; have hcy0 : w5.cell? ⟨gb, 0, none⟩ = some (.int .i64 a0_0) := (blk_cell hbox 0).trans rfl; have hcy1 : w5.cell? ⟨gb, 1, none⟩ = some (.int .i64 a0_1) := (blk_cell hbox 1).trans rfl; have hcy2 : w5.cell? ⟨gb, 2, none⟩ = some (.string a0_2) := (blk_cell hbox 2).trans rfl; have hcy3 : w5.cell? ⟨gb, 3, none⟩ = some (.slice A0_3 l0_3.length c0_3) := (blk_cell hbox 3).trans rfl; clear hb hbox) | (go_at_call 138; refine (names_calls k a0_0 a0_1 a0_2 A0_3 c0_3 l0_3 (.slice none 0 0) [] [] w _ HR.out HC.out HB5.out (Kd.R_nil _ _ _ _ _) HN.out).mono ?_; rintro e w6 ⟨v6, rfl, ho, hb⟩; obtain ⟨A6, c6, e6⟩ := Kd.R_slice ho; subst e6; have HB6 := Aside0.mk hb; have HO6 := Aside0.mk ho; clear ho hb) | (go_at_call 139; refine (Tryd.slices_Sort_string_none _ _ _).mono ?_; rintro e w7 ⟨rfl, rfl⟩) | (go_at_call 140; refine (Tryd.slices_Compact_string_empty _ _ _).mono ?_; rintro e w8 ⟨rfl, rfl⟩))
      go_ret
      exact ⟨_, rfl, HO6.out, HB6.out⟩
    · have HZ := Aside0.mk hz
      clear hz
      obtain ⟨ll, hll⟩ : ∃ ll, ll = l.length := ⟨_, rfl⟩
      have HLL := Aside0.mk hll
      have hl2 : (srtL l).length = l.length := by unfold srtL; rw [List.length_mergeSort, List.length_map]
      have HL2 := Aside0.mk hl2
      clear hll hl2
      go_enter Tryd.func106, Tryd.ntmps106
      go_wp2_with (first | ((with_reducible refine gate_dst (N := 1) rfl ?_); refine box_event ?hg (N := 1) ?hd (cs := #[.int .i64 a0_0, .int .i64 a0_1, .string a0_2, .slice A0_3 l0_3.length c0_3]) (t := 34) ?hr ?_; (case hd => rfl); (case hg => rfl); (case hr => first | (go_simp; done) | (go_simp; rfl)); intro gb hg w4 hbox hb; have HB4 := Aside0.mk hb; have HK4 := Aside0.mk hbox; clear hb hg; have hcz0 : w4.cell? ⟨gb, 0, none⟩ = some (.int .i64 a0_0) := (blk_cell hbox 0).trans rfl; have hcz1 : w4.cell? ⟨gb, 1, none⟩ = some (.int .i64 a0_1) := (blk_cell hbox 1).trans rfl; have hcz2 : w4.cell? ⟨gb, 2, none⟩ = some (.string a0_2) := (blk_cell hbox 2).trans rfl; have hcz3 : w4.cell? ⟨gb, 3, none⟩ = some (.slice A0_3 l0_3.length c0_3) := (blk_cell hbox 3).trans rfl; clear hbox) | (go_at_call 29; refine (expr_May.calls k a0_0 a0_1 a0_2 A0_3 c0_3 l0_3 true _ (Kd.C_below HR.out HB4.out) HC.out HM.out (UT.below HT.out HB4.out)).mono ?_; rintro e w5 ⟨rfl, hb⟩; have HB5 := Aside0.mk (below_step HB4.out hb); have hbox := blk_below HK4.out hb; have hcy0 : w5.cell? ⟨gb, 0, none⟩ = some (.int .i64 a0_0) := (blk_cell hbox 0).trans rfl; have hcy1 : w5.cell? ⟨gb, 1, none⟩ = some (.int .i64 a0_1) := (blk_cell hbox 1).trans rfl; have hcy2 : w5.cell? ⟨gb, 2, none⟩ = some (.string a0_2) := (blk_cell hbox 2).trans rfl; have hcy3 : w5.cell? ⟨gb, 3, none⟩ = some (.slice A0_3 l0_3.length c0_3) := (blk_cell hbox 3).trans rfl; clear hb hbox) | (go_at_call 138; refine (names_calls k a0_0 a0_1 a0_2 A0_3 c0_3 l0_3 (.slice none 0 0) [] l w _ HR.out HC.out HB5.out (Kd.R_nil _ _ _ _ _) HN.out).mono ?_; rintro e w6 ⟨v6, rfl, ho, hb⟩; have hown := Kd.own_of_R ho; have hne : v6 ≠ .slice none 0 0 := (fun e0 => HZ.out (by obtain ⟨A9, c9, e9⟩ := Kd.R_slice ho; rw [e0] at e9; injection e9 with _ e9 _; exact List.eq_nil_of_length_eq_zero e9.symm)); have hown2 : w6.ownsRow w.heap.size 9 1 v6 l.length ((l.map (·.data.toList)).map encStr) := (by rw [Lib.map_encStr]; exact hown); obtain ⟨g, cap, e6, hbg, hgl, hncap, hcm, hlen, hH⟩ := Lib.holds_of_ownsRow hown2 hne; subst e6; have HB6 := Aside0.mk hb; have HO6 := Aside0.mk hown2; have HG6 := Aside0.mk hbg; have HNC := Aside0.mk hncap; have hsort := Tryd.slices_Sort_string g 0 cap (l.map (·.data.toList)) w6 hH hgl (by rw [List.length_map]; have := HL.out; omega); rw [List.length_map] at hsort; have HS6 := Aside0.mk hsort; have HH6 := Aside0.mk hH; have HGL := Aside0.mk hgl; clear ho hb hown hown2 hne hH hsort hbg hgl hncap hcm hlen) | (go_at_call 139; refine HS6.out.mono ?_; rintro e w7 ⟨rfl, nn, os, rfl⟩; have hH2 : Sort.Holds encStr (Sort.grow (Sort.putRow encStr (Sort.ahead w6 nn) g 0 (srtL l).toArray) os) g 0 (srtL l).toArray := Sort.holds_grow encStr _ os g 0 _ (by simpa [Sort.putRow, Sort.mapBlock, Sort.ahead] using HGL.out) (Sort.holds_putRow encStr _ g 0 _ _ (Sort.holds_ahead encStr w6 nn g 0 _ HH6.out) (by simp [srtL])); have hcomp := Tryd.slices_Compact_string g 0 cap (srtL l) _ hH2 (by have := HL2.out; have := HL.out; omega) (by have := HL2.out; have := HNC.out; omega); rw [HL2.out] at hcomp; have HCo := Aside0.mk hcomp; clear hH2 hcomp) | (go_at_call 140; refine HCo.out.mono ?_; rintro e w8 ⟨rfl, q, rfl⟩))
      go_ret
      exact ⟨_, rfl, (sorted_own HO6.out HB6.out HG6.out).1, (sorted_own HO6.out HB6.out HG6.out).2⟩
def slices_Index_string_string.l0 : Nat → List ByteArray → ByteArray → Int → Int → Option (Int)
  | 0, _, _, _, _ => none
  | k + 1, x0, x1, x7, x8 => if x8 < x7 then (if 0 ≤ x8 then (if x8 < (x0.length : Int) then (if x1.toList = (rdOf ByteArray.empty x0 x8).toList then (some x8) else (slices_Index_string_string.l0 k x0 x1 x7 (wrap64 (x8 + 1)))) else (none)) else (none)) else (some (-1))
def slices_Index_string_string.f (k : Nat) (l0 : List ByteArray) (a1 : ByteArray) : Option (Int) := slices_Index_string_string.l0 k l0 a1 (l0.length : Int) 0
theorem slices_Index_string_string.mono_l : ∀ k, (∀ y0 y1 y2 y3, LeO (slices_Index_string_string.l0 k y0 y1 y2 y3) (slices_Index_string_string.l0 (k + 1) y0 y1 y2 y3))
  | 0 => fun _ _ _ _ r h => by simp [slices_Index_string_string.l0] at h
  | k + 1 => by
    have ih0 := slices_Index_string_string.mono_l k
    · intro y0 y1 y2 y3
      unfold slices_Index_string_string.l0
      repeat' first
      | (with_reducible exact ih0 _ _ _ _)
      | (with_reducible exact LeO.refl _)
      | (with_reducible exact LeO.none _)
      | (with_reducible refine LeO.ite ?_ ?_)
      | (with_reducible refine LeO.bind ?_ (fun _ => ?_))
      | exact ih0 _ _ _ _
      | exact LeO.none _
      | refine LeO.ite ?_ ?_
      | refine LeO.bind ?_ (fun _ => ?_)
theorem slices_Index_string_string.mono : ∀ a0 a1 k, LeO (slices_Index_string_string.f k a0 a1) (slices_Index_string_string.f (k + 1) a0 a1) := by
  intro a0 a1 k
  have ih0 := slices_Index_string_string.mono_l k
  unfold slices_Index_string_string.f
  repeat' first
      | (with_reducible exact ih0 _ _ _ _)
      | (with_reducible exact LeO.refl _)
      | (with_reducible exact LeO.none _)
      | (with_reducible refine LeO.ite ?_ ?_)
      | (with_reducible refine LeO.bind ?_ (fun _ => ?_))
      | exact ih0 _ _ _ _
      | exact LeO.none _
      | refine LeO.ite ?_ ?_
      | refine LeO.bind ?_ (fun _ => ?_)
set_option maxHeartbeats 8000000 in
set_option maxRecDepth 100000 in
theorem slices_Index_string_string.calls (k : Nat) (A0 : Option Addr) (c0 : Nat) (l0 : List ByteArray) (a1 : ByteArray) (r : Int) (w : World) (hr0 : Kd.C Kd.string w A0 l0.length l0) (hc0 : l0.length ≤ c0) (h : slices_Index_string_string.f k l0 a1 = some r) :
    Calls Tryd.prog 93 #[.slice A0 l0.length c0, .string a1] w fun e w' => e = .returned (.int .i64 r) ∧ Drawn0 w w' := by
  have HR0 := Aside0.mk hr0
  have HC0 := Aside0.mk hc0
  clear hr0 hc0
  have H : (slices_Index_string_string.l0 k l0 a1 (l0.length : Int) 0) = some r := h
  clear h
  have H' := Aside0.mk H
  clear H
  go_enter Tryd.func93, Tryd.ntmps93
  go_wp2
  go_loopg [8] k (fun kq v8 w' => ∃ (x8_1 : Int), v8 = .int .i64 x8_1 ∧ Aside0 (slices_Index_string_string.l0 kq l0 a1 (l0.length : Int) x8_1 = some r) ∧ Aside0 (kq ≤ k) ∧ Drawn0 w w')
  case atStart => exact ⟨(0), qv, H', ⟨Nat.le_refl _⟩, by repeat (first | exact Drawn0.refl _ | apply Drawn0.step)⟩
  case round =>
    clear H'
    obtain ⟨x8_1, rfl, HA, HK1, ⟨m1, rfl⟩⟩ := hrel
    cases gk with
    | zero => exact absurd HA.out (by simp [slices_Index_string_string.l0])
    | succ k1 =>
      have H := HA.out
      clear HA
      simp only [slices_Index_string_string.l0] at H
      by_cases c3 : x8_1 < (l0.length : Int)
      · rw [if_pos c3] at H
        have c3b0 : decide (x8_1 < (l0.length : Int)) = true := decide_eq_true c3
        clear c3
        by_cases c4 : 0 ≤ x8_1
        · rw [if_pos c4] at H
          have c4b0 : decide (0 ≤ x8_1) = true := decide_eq_true c4
          clear c4
          by_cases c5 : x8_1 < (l0.length : Int)
          · rw [if_pos c5] at H
            have c5b0 : decide (x8_1 < (l0.length : Int)) = true := decide_eq_true c5
            clear c5
            by_cases c6 : a1.toList = (rdOf ByteArray.empty l0 x8_1).toList
            · rw [if_pos c6] at H
              obtain ⟨c6b0, c6b1⟩ := qe c6
              clear c6
              obtain rfl := Option.some.inj H
              have p101 : 0 ≤ (x8_1 : Int) := qa
              have q101 : x8_1 < (l0.length : Int) := qa
              obtain ⟨ad101, e101, hx101_0⟩ := Kd.at_string HR0.out x8_1 p101 q101
              cases e101
              replace p101 := eq_true p101
              replace q101 := eq_true q101
              go_wp2
              go_ret
              exact ⟨by first | rfl | (simp; done) | (simp [*]; done), by repeat (first | exact Drawn0.refl _ | apply Drawn0.step)⟩
            · rw [if_neg c6] at H
              obtain ⟨c6b0, c6b1⟩ := qd c6
              have H' := Aside0.mk H
              clear H
              have p101 : 0 ≤ (x8_1 : Int) := qa
              have q101 : x8_1 < (l0.length : Int) := qa
              obtain ⟨ad101, e101, hx101_0⟩ := Kd.at_string HR0.out x8_1 p101 q101
              cases e101
              replace p101 := eq_true p101
              replace q101 := eq_true q101
              go_wp2
              go_roundg k1
              case measure => have := HK1.out; omega
              case rel => exact ⟨(wrap64 (x8_1 + 1)), qv, H', ⟨by have := HK1.out; omega⟩, by repeat (first | exact Drawn0.refl _ | apply Drawn0.step)⟩
          · rw [if_neg c5] at H
            exact absurd H (by simp)
        · rw [if_neg c4] at H
          exact absurd H (by simp)
      · rw [if_neg c3] at H
        have c3b0 : decide (x8_1 < (l0.length : Int)) = false := decide_eq_false c3
        clear c3
        obtain rfl := Option.some.inj H
        go_wp2
        go_ret
        exact ⟨by first | rfl | (simp; done) | (simp [*]; done), by repeat (first | exact Drawn0.refl _ | apply Drawn0.step)⟩
def slices_Contains_string_string.f (k : Nat) (l0 : List ByteArray) (a1 : ByteArray) : Option (Bool) := (slices_Index_string_string.f k l0 a1).bind fun t101 => (some (decide (t101 ≥ 0)))
theorem slices_Contains_string_string.mono : ∀ a0 a1 k, LeO (slices_Contains_string_string.f k a0 a1) (slices_Contains_string_string.f (k + 1) a0 a1) := by
  intro a0 a1 k
  unfold slices_Contains_string_string.f
  repeat' first
      | (with_reducible exact slices_Index_string_string.mono _ _ _)
      | (with_reducible exact LeO.refl _)
      | (with_reducible exact LeO.none _)
      | (with_reducible refine LeO.ite ?_ ?_)
      | (with_reducible refine LeO.bind ?_ (fun _ => ?_))
      | exact slices_Index_string_string.mono _ _ _
      | exact LeO.none _
      | refine LeO.ite ?_ ?_
      | refine LeO.bind ?_ (fun _ => ?_)
set_option maxHeartbeats 8000000 in
set_option maxRecDepth 100000 in
theorem slices_Contains_string_string.calls (k : Nat) (A0 : Option Addr) (c0 : Nat) (l0 : List ByteArray) (a1 : ByteArray) (r : Bool) (w : World) (hr0 : Kd.C Kd.string w A0 l0.length l0) (hc0 : l0.length ≤ c0) (h : slices_Contains_string_string.f k l0 a1 = some r) :
    Calls Tryd.prog 61 #[.slice A0 l0.length c0, .string a1] w fun e w' => e = .returned (.bool r) ∧ Drawn0 w w' := by
  have HR0 := Aside0.mk hr0
  have HC0 := Aside0.mk hc0
  clear hr0 hc0
  have H : ((slices_Index_string_string.f k l0 a1).bind fun t101 => (some (decide (t101 ≥ 0)))) = some r := h
  clear h
  replace H := qi H
  obtain ⟨t101, A3, H⟩ := H
  obtain rfl := Option.some.inj H
  go_enter Tryd.func61, Tryd.ntmps61
  go_wp2_with (first | ((with_reducible refine gate_callee (f := 93) rfl ?_); refine goesL_ (some 7) rfl rfl Tryd.func93 (by kernel_rfl) rfl #[.slice A0 l0.length c0, .string a1] rfl qm ?_; (with_reducible refine (slices_Index_string_string.calls k _ _ l0 a1 t101 _ ?side1 ?side2 A3.out).mono ?_); (case side1 => repeat (first | exact HR0.out | (with_reducible refine Kd.C_alloc ?_ _) | (with_reducible refine Kd.C_drewN ?_ _) | (with_reducible refine Kd.C_drew ?_))); (case side2 => exact HC0.out); rintro e w' ⟨rfl, ⟨nd, rfl⟩⟩; refine ⟨_, rfl, ?_⟩))
  go_ret
  exact ⟨by first | rfl | (simp; done) | (simp [*]; done), by repeat (first | exact Drawn0.refl _ | apply Drawn0.step)⟩
def rung_once.f (k : Nat) (l0 : List ByteArray) (a1 : ByteArray) : Option (List ByteArray) := (slices_Contains_string_string.f k l0 a1).bind fun t101 => (if t101 = true then (some l0) else (if l0.length < 8796093022208 then (some (l0 ++ [a1])) else (none)))
theorem rung_once.mono : ∀ a0 a1 k, LeO (rung_once.f k a0 a1) (rung_once.f (k + 1) a0 a1) := by
  intro a0 a1 k
  unfold rung_once.f
  repeat' first
      | (with_reducible exact slices_Contains_string_string.mono _ _ _)
      | (with_reducible exact LeO.refl _)
      | (with_reducible exact LeO.none _)
      | (with_reducible refine LeO.ite ?_ ?_)
      | (with_reducible refine LeO.bind ?_ (fun _ => ?_))
      | exact slices_Contains_string_string.mono _ _ _
      | exact LeO.none _
      | refine LeO.ite ?_ ?_
      | refine LeO.bind ?_ (fun _ => ?_)
set_option maxHeartbeats 8000000 in
set_option maxRecDepth 100000 in
theorem rung_once.calls (k : Nat) (P0_ : Nat → Prop) (u9000_ : Value) (l0 : List ByteArray) (a1 : ByteArray) (r : List ByteArray) (w0 w : World) (hB : Below w0.heap.size w0 w) (ho0 : Kd.R Kd.string 9 w w0.heap.size P0_ u9000_ l0) (h : rung_once.f k l0 a1 = some r) :
  Calls Tryd.prog 58 #[u9000_, .string a1] w fun e w' => ∃ v0_ : Value, e = .returned (v0_) ∧ Kd.R Kd.string 9 w' w0.heap.size (fun k_ => (P0_ k_ ∨ w.heap.size ≤ k_)) v0_ r ∧ Below w0.heap.size w0 w' ∧ Kept w w' (fun k_ => P0_ k_) := by
 have HO0 := Aside0.mk (show Kd.R Kd.string 9 w w0.heap.size (fun k_ => (P0_ k_ ∨ w.heap.size ≤ k_)) u9000_ l0 from Kd.R_mono ho0 (fun k_ hk => (.inl hk)))
 have HK := Aside0.mk (Kept.refl w (fun k_ => P0_ k_))
 have HW0 := Aside0.mk hB.size
 have HB := Aside0.mk hB
 clear hB
 have H : ((slices_Contains_string_string.f k l0 a1).bind fun t101 => (if t101 = true then (some l0) else (if l0.length < 8796093022208 then (some (l0 ++ [a1])) else (none)))) = some r := h
 clear h
 replace H := qi H
 obtain ⟨t101, A3, H⟩ := H
 by_cases c4 : t101 = true
 ·subst c4
  rw [if_pos rfl] at H
  obtain rfl := Option.some.inj H
  obtain ⟨Ao5, co5, eo5⟩ := Kd.R_slice HO0.out
  subst eo5
  go_enter Tryd.func58, Tryd.ntmps58
  go_wp2_with (first | ((with_reducible refine gate_callee (f := 61) rfl ?_); refine goesL_ (some 7) rfl rfl Tryd.func61 (by kernel_rfl) rfl #[.slice Ao5 l0.length co5, .string a1] rfl qm ?_; (with_reducible refine (slices_Contains_string_string.calls k _ _ l0 a1 true _ ?side1 ?side2 A3.out).mono ?_); (case side1 => repeat (first | exact (Kd.R_reads' HO0.out).2.2 | (with_reducible refine Kd.C_alloc ?_ _) | (with_reducible refine Kd.C_drewN ?_ _) | (with_reducible refine Kd.C_drew ?_))); (case side2 => exact (Kd.R_reads' HO0.out).2.1); rintro e w' ⟨rfl, ⟨nd, rfl⟩⟩; refine ⟨_, rfl, ?_⟩))
  go_ret
  exact ⟨_, by first | rfl | (simp [errW_none, errW_some] <;> rfl) | (simp [*, errW_none, errW_some] <;> rfl), by (with_reducible repeat (first | apply Kd.R_alloc | apply Kd.R_drewN | apply Kd.R_drew)); exact HO0.out, qb, by repeat (first | (with_reducible first | exact HK.out | apply Kept.alloc | apply Kept.drewN | apply Kept.drew) | exact HK.out)⟩
 ·replace c4 := Bool.eq_false_iff.mpr c4
  subst c4
  rw [if_neg qf] at H
  by_cases c6 : l0.length < 8796093022208
  ·rw [if_pos c6] at H
   have LMc6 := Aside0.mk c6
   clear c6
   obtain ⟨y102, hy102⟩ : ∃ y_ : List ByteArray, y_ = (l0 ++ [a1]) := ⟨_, rfl⟩
   replace H : (some y102) = some r := by first | (rw [hy102]; with_reducible exact H) | (have H2_ := (Option.bind_some _ _).symm.trans H; rw [hy102]; with_reducible exact H2_) | (have H2_ := (Option.bind_some _ _).symm.trans H; with_reducible exact H2_) | with_reducible exact H | (rw [hy102]; exact H) | exact H
   have Ny102 := Aside0.mk hy102
   clear hy102
   obtain rfl := Option.some.inj H
   obtain ⟨Ao7, co7, eo7⟩ := Kd.R_slice HO0.out
   subst eo7
   go_enter Tryd.func58, Tryd.ntmps58
   go_wp2_with (first | ((with_reducible refine gate_callee (f := 61) rfl ?_); refine goesL_ (some 7) rfl rfl Tryd.func61 (by kernel_rfl) rfl #[.slice Ao7 l0.length co7, .string a1] rfl qm ?_; (with_reducible refine (slices_Contains_string_string.calls k _ _ l0 a1 false _ ?side1 ?side2 A3.out).mono ?_); (case side1 => repeat (first | exact (Kd.R_reads' HO0.out).2.2 | (with_reducible refine Kd.C_alloc ?_ _) | (with_reducible refine Kd.C_drewN ?_ _) | (with_reducible refine Kd.C_drew ?_))); (case side2 => exact (Kd.R_reads' HO0.out).2.1); rintro e w' ⟨rfl, ⟨nd, rfl⟩⟩; refine ⟨_, rfl, ?_⟩) | ((with_reducible refine gate_builtin (b := .append) (xs := #[.tmp 9, .tmp 11]) rfl ?_); at_builtin; refine Kd.R_append Kd.string (w0 := w0) w0.heap.size rfl (.tmp 9) (.tmp 11) 23 9 (.string ⟨#[]⟩) 16 rfl Tryd.underlying23 info9 rfl (by decide) (by omega) (.slice Ao7 l0.length co7) l0 a1 [.string a1] (fun k_ => (P0_ k_ ∨ w.heap.size ≤ k_)) (fun _ => False) rfl rfl ?aP (fun _ hk => hk.elim) ?aF ?aO ?aB ?aS ?aL ?_; (case aP => exact rfl); (case aB => exact qb); (case aF => exact (fun k_ hk => (.inr (Nat.le_trans (by first | exact HK.out.1 | exact (show Kept w _ (fun k_ => P0_ k_) from by repeat (first | (with_reducible first | exact HK.out | apply Kept.alloc | apply Kept.drewN | apply Kept.drew) | exact HK.out)).1) hk)))); (case aO => exact (by (with_reducible repeat (first | apply Kd.R_alloc | apply Kd.R_drewN | apply Kd.R_drew)); exact HO0.out)); (case aS => exact (below_size qb)); (case aL => have := LMc6.out; omega); intro v103 w8 ho hb hg hat; rw [← Ny102.out] at ho; have n0_ := Aside0.mk (hb); have n1_ := Aside0.mk (Kept.of_grown (S := (fun k_ => P0_ k_)) hg (by repeat (first | (with_reducible first | exact HK.out | apply Kept.alloc | apply Kept.drewN | apply Kept.drew) | exact HK.out)) (fun k_ e_ => (HO0.out.1 k_ e_))); have n2_ := Aside0.mk (ho); clear HB; clear HK; clear HO0; have HB := n0_; have HK := n1_; have HO104 := n2_; clear n0_ n1_ n2_; clear ho hb hg hat))
   go_ret
   exact ⟨_, by first | rfl | (simp [errW_none, errW_some] <;> rfl) | (simp [*, errW_none, errW_some] <;> rfl), by (with_reducible repeat (first | apply Kd.R_alloc | apply Kd.R_drewN | apply Kd.R_drew)); exact HO104.out, qb, by repeat (first | (with_reducible first | exact HK.out | apply Kept.alloc | apply Kept.drewN | apply Kept.drew) | exact HK.out)⟩
  ·rw [if_neg c6] at H
   exact absurd H (by simp)
def rung_strangeN.l0 : Nat → List ByteArray → Int → Int → Option (Bool)
  | 0, _, _, _ => none
  | k + 1, x8, x9, x10 => if x10 < x9 then (if 0 ≤ x10 then (if x10 < (x8.length : Int) then (rung_strangeN.l0 k x8 x9 (wrap64 (x10 + 1))) else (none)) else (none)) else (some false)
def rung_strangeN.f (k : Nat) (a0_0 : Int) (a0_1 : Int) (a0_2 : ByteArray) (l0_3 : List (S34)) (l1 : List ByteArray) : Option (Bool) := (expr_Names.f k a0_0 a0_1 a0_2 l0_3).bind fun t102 => (rung_strangeN.l0 k t102 (t102.length : Int) 0)
theorem rung_strangeN.mono_l : ∀ k, (∀ y0 y1 y2, LeO (rung_strangeN.l0 k y0 y1 y2) (rung_strangeN.l0 (k + 1) y0 y1 y2))
  | 0 => fun _ _ _ r h => by simp [rung_strangeN.l0] at h
  | k + 1 => by
    have ih0 := rung_strangeN.mono_l k
    · intro y0 y1 y2
      unfold rung_strangeN.l0
      repeat' first
      | (with_reducible exact ih0 _ _ _)
      | (with_reducible exact expr_Names.mono _ _ _ _ _)
      | (with_reducible exact LeO.refl _)
      | (with_reducible exact LeO.none _)
      | (with_reducible refine LeO.ite ?_ ?_)
      | (with_reducible refine LeO.bind ?_ (fun _ => ?_))
      | exact ih0 _ _ _
      | exact expr_Names.mono _ _ _ _ _
      | exact LeO.none _
      | refine LeO.ite ?_ ?_
      | refine LeO.bind ?_ (fun _ => ?_)
theorem rung_strangeN.mono : ∀ a0 a1 a2 a3 a4 k, LeO (rung_strangeN.f k a0 a1 a2 a3 a4) (rung_strangeN.f (k + 1) a0 a1 a2 a3 a4) := by
  intro a0 a1 a2 a3 a4 k
  have ih0 := rung_strangeN.mono_l k
  unfold rung_strangeN.f
  repeat' first
      | (with_reducible exact ih0 _ _ _)
      | (with_reducible exact expr_Names.mono _ _ _ _ _)
      | (with_reducible exact LeO.refl _)
      | (with_reducible exact LeO.none _)
      | (with_reducible refine LeO.ite ?_ ?_)
      | (with_reducible refine LeO.bind ?_ (fun _ => ?_))
      | exact ih0 _ _ _
      | exact expr_Names.mono _ _ _ _ _
      | exact LeO.none _
      | refine LeO.ite ?_ ?_
      | refine LeO.bind ?_ (fun _ => ?_)
set_option maxHeartbeats 8000000 in
set_option maxRecDepth 100000 in
theorem rung_strangeN.calls (k : Nat) (a0_0 : Int) (a0_1 : Int) (a0_2 : ByteArray) (A0_3 : Option Addr) (c0_3 : Nat) (l0_3 : List (S34)) (A1 : Option Addr) (c1 : Nat) (l1 : List ByteArray) (r : Bool) (w : World) (hr0_3 : Kd.C k34 w A0_3 l0_3.length l0_3) (hc0_3 : l0_3.length ≤ c0_3) (hr1 : Kd.C Kd.string w A1 l1.length l1) (hc1 : l1.length ≤ c1) (h : rung_strangeN.f k a0_0 a0_1 a0_2 l0_3 l1 = some r) (hN : A1 = none) (hT : UT w) :
    Calls Tryd.prog 123 #[.agg #[.int .i64 a0_0, .int .i64 a0_1, .string a0_2, .slice A0_3 l0_3.length c0_3], .slice A1 l1.length c1] w fun e w' => e = .returned (.bool r) ∧ Below w.heap.size w w' := by
  have HT0 := Aside0.mk hT
  clear hT
  have hN2 : ∀ w' : World, (binOp .neq 23 (.slice A1 l1.length c1) (.slice none 0 0)).run Tryd.prog w' = .ok (.bool false) w' := fun w' => by rw [Go.run_neq_slice_nil w' 23 9 A1 l1.length c1 Tryd.underlying23]; rw [hN]; rfl
  have HNL := Aside0.mk hN
  clear hN
  have hu34 := Tryd.underlying34
  have HR0_3 := Aside0.mk hr0_3
  have HC0_3 := Aside0.mk hc0_3
  clear hr0_3 hc0_3
  have HR1 := Aside0.mk hr1
  have HC1 := Aside0.mk hc1
  clear hr1 hc1
  have HB := Aside0.mk (Below.refl w.heap.size w)
  have H : ((expr_Names.f k a0_0 a0_1 a0_2 l0_3).bind fun t102 => (rung_strangeN.l0 k t102 (t102.length : Int) 0)) = some r := h
  clear h
  replace H := qi H
  obtain ⟨t102, A3, H⟩ := H
  have H' := Aside0.mk H
  clear H
  go_enter Tryd.func123, Tryd.ntmps123
  go_wp2_with (first | ((with_reducible refine gate_dst (N := 2) rfl ?_); refine box_event ?hg (N := 2) ?hd (cs := #[.int .i64 a0_0, .int .i64 a0_1, .string a0_2, .slice A0_3 l0_3.length c0_3]) (t := 34) ?hr ?_; (case hd => rfl); (case hg => rfl); (case hr => first | (go_simp; done) | (go_simp; rfl)); intro gb101 hg w4 hbox hb; have n0_ := qs hb; have n1_ := Aside0.mk (hbox); have n2_ := Aside0.mk ((by rw [hg]; exact (below_size qb) : w.heap.size ≤ gb101)); have n3_ := Aside0.mk ((by rw [hg]; exact (below_size qb) : w.heap.size ≤ gb101)); clear HB; have HB := n0_; have BK101 := n1_; have GW101 := n2_; have GE101 := n3_; clear n0_ n1_ n2_ n3_; clear hb hbox hg; obtain ⟨_, _, _, _, _, _, _, _⟩ := q4 BK101.out) | ((with_reducible refine gate_callee (f := 106) rfl ?_); refine goesL_ (some 8) rfl rfl Tryd.func106 (by kernel_rfl) rfl #[.agg #[.int .i64 a0_0, .int .i64 a0_1, .string a0_2, .slice A0_3 l0_3.length c0_3]] rfl qm ?_; (with_reducible refine (expr_Names.calls k a0_0 a0_1 a0_2 _ _ l0_3 t102 _ ?side1 ?side2 A3.out (by first | exact HT0.out | exact UT.below HT0.out qb)).mono ?_); (case side1 => exact qC HR0_3.out); (case side2 => exact HC0_3.out); rintro e w6 ⟨v103, rfl, ho0, hb⟩; refine ⟨_, rfl, ?_⟩; have n0_ := Aside0.mk (Kd.R_lower ho0 (below_size qb)); have n1_ := qn (g := gb101) hb; have n2_ := qs hb; clear BK101; clear HB; have HO104 := n0_; have BK101 := n1_; have HB := n2_; clear n0_ n1_ n2_; (try clear hb); (try clear ho0); obtain ⟨Ao7, co7, eo7⟩ := Kd.R_slice HO104.out; subst eo7))
  go_loopg [10] k (fun kq v10 w' => ∃ (x10_1 : Int), v10 = .int .i64 x10_1 ∧ Aside0 (rung_strangeN.l0 kq t102 (t102.length : Int) x10_1 = some r) ∧ Aside0 (kq ≤ k) ∧ Aside0 (Kd.R Kd.string 9 w' w.heap.size (fun _ => True) (.slice Ao7 t102.length co7) t102) ∧ Aside0 (w'.heap[gb101]? = some (.cells #[.int .i64 a0_0, .int .i64 a0_1, .string a0_2, (.slice A0_3 l0_3.length c0_3)] 34 (0, 0))) ∧ Aside0 (Below w.heap.size w w'))
  case atStart => exact ⟨(0), qv, H', ⟨Nat.le_refl _⟩, ⟨by (with_reducible repeat (first | apply Kd.R_alloc | apply Kd.R_drewN | apply Kd.R_drew)); exact HO104.out⟩, qk, qB⟩
  case round =>
    clear H'
    obtain ⟨x10_1, rfl, HA, HK1, HO_8, BK101, HB⟩ := hrel
    cases gk with
    | zero => exact absurd HA.out (by simp [rung_strangeN.l0])
    | succ k1 =>
      have H := HA.out
      clear HA
      simp only [rung_strangeN.l0] at H
      by_cases c8 : x10_1 < (t102.length : Int)
      · rw [if_pos c8] at H
        have c8b0 : decide (x10_1 < (t102.length : Int)) = true := decide_eq_true c8
        clear c8
        by_cases c9 : 0 ≤ x10_1
        · rw [if_pos c9] at H
          have c9b0 : decide (0 ≤ x10_1) = true := decide_eq_true c9
          clear c9
          by_cases c10 : x10_1 < (t102.length : Int)
          · rw [if_pos c10] at H
            have c10b0 : decide (x10_1 < (t102.length : Int)) = true := decide_eq_true c10
            clear c10
            have H' := Aside0.mk H
            clear H
            have p105 : 0 ≤ (x10_1 : Int) := qa
            have q105 : x10_1 < (t102.length : Int) := qa
            obtain ⟨ad105, e105, hx105_0⟩ := Kd.at_string (Kd.R_reads' HO_8.out).2.2 x10_1 p105 q105
            cases e105
            replace p105 := eq_true p105
            replace q105 := eq_true q105
            go_wp2
            go_roundg k1
            case measure => have := HK1.out; omega
            case rel => exact ⟨(wrap64 (x10_1 + 1)), qv, H', ⟨by have := HK1.out; omega⟩, ⟨by (with_reducible repeat (first | apply Kd.R_alloc | apply Kd.R_drewN | apply Kd.R_drew)); exact HO_8.out⟩, qk, qB⟩
          · rw [if_neg c10] at H
            exact absurd H (by simp)
        · rw [if_neg c9] at H
          exact absurd H (by simp)
      · rw [if_neg c8] at H
        have c8b0 : decide (x10_1 < (t102.length : Int)) = false := decide_eq_false c8
        clear c8
        obtain rfl := Option.some.inj H
        go_wp2
        go_ret
        exact qr
end Go.Proofs.YtiaccdaeomaogaaDoor.F
namespace Go.Proofs.YtiaccdaeomaogaaDoor.F
open Go.RowKit Go.Proofs.YtiaccdaeomaogaaDoorW.PrintWords Go.Proofs.YtiaccdaeomaogaaDoorW.PrintLast Go.Proofs.YtiaccdaeomaogaaDoorW.PrintMore
set_option linter.unusedVariables false
set_option linter.unusedSimpArgs false
def Tot {α : Type} (F : Nat → Option α) (v : α) : Prop := ∃ K, ∀ k, K ≤ k → F k = some v
theorem Tot.const {α : Type} (v : α) : Tot (fun _ => some v) v := ⟨0, fun _ _ => rfl⟩
theorem Tot.succ {α : Type} {F : Nat → Option α} {v : α} (h : Tot (fun k => F (k + 1)) v) : Tot F v := by
  obtain ⟨K, hK⟩ := h
  refine ⟨K + 1, fun k hk => ?_⟩
  obtain ⟨j, rfl⟩ : ∃ j, k = j + 1 := ⟨k - 1, by omega⟩
  exact hK j (by omega)
theorem Tot.bind {α β : Type} {F : Nat → Option α} {G : Nat → α → Option β} {a : α} {b : β} (hF : Tot F a) (hG : Tot (fun k => G k a) b) : Tot (fun k => (F k).bind (G k)) b := by
  obtain ⟨K, hK⟩ := hF
  obtain ⟨L, hL⟩ := hG
  refine ⟨max K L, fun k hk => ?_⟩
  show (F k).bind (G k) = some b
  rw [hK k (by omega)]
  exact hL k (by omega)
theorem Tot.uniq {α : Type} {F : Nat → Option α} {a b : α} (h : Tot F a) (g : Tot F b) : a = b := by
  obtain ⟨K, hK⟩ := h
  obtain ⟨L, hL⟩ := g
  exact Option.some.inj ((hK (max K L) (by omega)).symm.trans (hL (max K L) (by omega)))
theorem Tot.cg {α : Type} {F G : Nat → Option α} {v : α} (h : Tot G v) (e : ∀ k, F k = G k) : Tot F v := by
  obtain ⟨K, hK⟩ := h
  exact ⟨K, fun k hk => (e k).trans (hK k hk)⟩
theorem w1 {x : Int} (h : 0 ≤ x) (g : x < 9223372036854775807) : wrap64 (x + 1) = x + 1 := by unfold wrap64; omega
theorem I64.w (x : Int) : I64 (wrap64 x) := by unfold I64 wrap64; omega
def ixF : List ByteArray → ByteArray → Int → Int
  | [], _, _ => -1
  | y :: ys, x, i => if x.toList = y.toList then i else ixF ys x (i + 1)
theorem ixF_facts : ∀ (l : List ByteArray) (x : ByteArray) (i : Int), 0 ≤ i → (ixF l x i = -1 ∧ ∀ y ∈ l, x.toList ≠ y.toList) ∨ (i ≤ ixF l x i ∧ ixF l x i < i + l.length ∧ ∃ y ∈ l, x.toList = y.toList)
  | [], x, i, _ => .inl ⟨rfl, fun y hy => nomatch hy⟩
  | y :: ys, x, i, hi => by
    unfold ixF
    by_cases h : x.toList = y.toList
    · rw [if_pos h]
      exact .inr ⟨by omega, by simp; omega, y, .head _, h⟩
    · rw [if_neg h]
      rcases ixF_facts ys x (i + 1) (by omega) with ⟨h1, h2⟩ | ⟨h1, h2, z, h3, h4⟩
      · exact .inl ⟨h1, fun z hz => by rcases List.mem_cons.mp hz with rfl | hz; exact h; exact h2 z hz⟩
      · exact .inr ⟨by omega, by simp; omega, z, .tail _ h3, h4⟩
theorem ixF_nonneg {l : List ByteArray} {x : ByteArray} : 0 ≤ ixF l x 0 ↔ ∃ y ∈ l, x.toList = y.toList := by
  rcases ixF_facts l x 0 (by omega) with ⟨h1, h2⟩ | ⟨h1, h2, h3⟩
  · exact ⟨fun h => by omega, fun ⟨y, hy, e⟩ => absurd e (h2 y hy)⟩
  · exact ⟨fun _ => h3, fun _ => h1⟩
theorem ixF_lt {l : List ByteArray} {x : ByteArray} (hl : 0 ≤ ixF l x 0) : ixF l x 0 < (l.length : Int) := by
  rcases ixF_facts l x 0 (by omega) with ⟨h1, h2⟩ | ⟨h1, h2, h3⟩ <;> omega
theorem drop_rd {α : Type} (d : α) {l : List α} {i : Nat} (h : i < l.length) : l.drop i = rdOf d l (i : Int) :: l.drop (i + 1) := by
  rw [List.drop_eq_getElem_cons h]
  unfold rdOf; rw [Int.toNat_natCast, List.getD, List.getElem?_eq_getElem h]; rfl
theorem Index_l0 (l : List ByteArray) (x : ByteArray) (hl : l.length < 9223372036854775807) : ∀ (n i : Nat), i + n = l.length → Tot (fun k => slices_Index_string_string.l0 k l x (l.length : Int) (i : Int)) (ixF (l.drop i) x (i : Int))
  | 0, i, e => by
    refine Tot.succ ?_
    simp only [slices_Index_string_string.l0]
    rw [List.drop_eq_nil_of_le (by omega)]
    simp only [if_neg (show ¬ (i : Int) < (l.length : Int) by omega), ixF]
    exact Tot.const _
  | n + 1, i, e => by
    refine Tot.succ ?_
    simp only [slices_Index_string_string.l0]
    rw [drop_rd ByteArray.empty (show i < l.length by omega)]
    simp only [if_pos (show (i : Int) < (l.length : Int) by omega), if_pos (show 0 ≤ (i : Int) by omega), ixF]
    by_cases h : x.toList = (rdOf ByteArray.empty l (i : Int)).toList
    · simp only [if_pos h]; exact Tot.const _
    · simp only [if_neg h, w1 (show 0 ≤ (i : Int) by omega) (show (i : Int) < 9223372036854775807 by omega)]
      exact Index_l0 l x hl n (i + 1) (by omega)
theorem Index_tot (l : List ByteArray) (x : ByteArray) (hl : l.length < 9223372036854775807) : Tot (fun k => slices_Index_string_string.f k l x) (ixF l x 0) := Index_l0 l x hl l.length 0 (by omega)
theorem Contains_tot (l : List ByteArray) (x : ByteArray) (hl : l.length < 9223372036854775807) : Tot (fun k => slices_Contains_string_string.f k l x) (decide (ixF l x 0 ≥ 0)) :=
  Tot.bind (Index_tot l x hl) (Tot.const _)
def onceP (l : List ByteArray) (a : ByteArray) : List ByteArray := if 0 ≤ ixF l a 0 then l else l ++ [a]
theorem once_tot (l : List ByteArray) (a : ByteArray) (hl : l.length < 8796093022208) : Tot (fun k => rung_once.f k l a) (onceP l a) := by
  refine Tot.bind (Contains_tot l a (by omega)) ?_
  unfold onceP
  by_cases h : 0 ≤ ixF l a 0
  · simp only [ge_iff_le, h, decide_true, if_true]; exact Tot.const _
  · simp only [ge_iff_le, h, decide_false, if_neg (show ¬ (false = true) by decide), if_pos hl, if_false]; exact Tot.const _
theorem onceP_len (l : List ByteArray) (a : ByteArray) : (onceP l a).length ≤ l.length + 1 ∧ l.length ≤ (onceP l a).length := by
  unfold onceP; split <;> simp
theorem Name_tot (a : ByteArray) (h : a.size < 9223372036854775807) : ∃ b, lex_Name.f a = some b := by
  unfold lex_Name.f utf8_ValidString.f utf8_RuneCountInString.f lex_wordy.f
  simp only [if_pos h, Option.bind_some]
  by_cases h1 : Lib.validD a.data.toList = true
  · rw [if_pos h1]
    by_cases h2 : (wordyFrom a a.size 0 && !a.toList.isEmpty) = true
    · rw [if_pos h2]
      have h3 : 0 < (a.size : Int) := by
        have h4 := (Bool.and_eq_true _ _ ▸ h2).2
        by_cases h5 : a.size = 0
        · have : a.toList = [] := by rw [Lib.toList_data]; exact List.length_eq_zero_iff.mp (by simpa using h5)
          rw [this] at h4; cases h4
        · omega
      rw [if_pos h3]
      by_cases h6 : bt a 0 < 48
      · rw [if_pos h6]; exact ⟨_, rfl⟩
      · rw [if_neg h6]; split <;> exact ⟨_, rfl⟩
    · rw [if_neg h2]; exact ⟨_, rfl⟩
  · rw [if_neg h1]; exact ⟨_, rfl⟩
inductive OkE : S34 → Prop
  | mk (x : S34) (h1 : I64 x.f1) (h2 : x.f2.size ≤ 200) (h3 : x.f3.length ≤ 200) (h4 : ∀ y, y ∈ x.f3 → OkE y) : OkE x
inductive OkI : S34 → Prop
  | mk (x : S34) (h1 : I64 x.f1) (h4 : ∀ y, y ∈ x.f3 → OkI y) : OkI x
theorem rd_mem {l : List S34} {i : Nat} (h : i < l.length) : rd_T34 l (i : Int) ∈ l := by
  unfold rd_T34; rw [Int.toNat_natCast, List.getD, List.getElem?_eq_getElem h]; exact List.getElem_mem h
theorem drop34 {l : List S34} {i : Nat} (h : i < l.length) : l.drop i = rd_T34 l (i : Int) :: l.drop (i + 1) := by
  rw [List.drop_eq_getElem_cons h]
  unfold rd_T34; rw [Int.toNat_natCast, List.getD, List.getElem?_eq_getElem h]; rfl
theorem Weight_tot {x : S34} (h : OkI x) : ∀ b : Int, 0 ≤ b → b ≤ 200 → ∃ t, Tot (fun k => malthouseref02_Weight.f k x.f0 x.f1 x.f2 x.f3 b) t ∧ 0 ≤ t ∧ t ≤ b ∧ (t ≠ 0 → OkE x) := by
  induction h with
  | mk x h1 h4 ih =>
  intro b hb0 hb
  by_cases hl : (x.f3.length : Int) > b
  · refine ⟨0, Tot.succ ?_, by omega, by omega, fun h => absurd rfl h⟩
    simp only [malthouseref02_Weight.f, if_pos hl]
    refine Tot.succ ?_
    simp only [malthouseref02_Weight.j0, if_true]; exact Tot.const _
  by_cases hs : (x.f2.size : Int) > 200
  · refine ⟨0, Tot.succ ?_, by omega, by omega, fun h => absurd rfl h⟩
    simp only [malthouseref02_Weight.f, if_neg hl, hs, decide_true]
    refine Tot.succ ?_
    simp only [malthouseref02_Weight.j0, if_true]; exact Tot.const _
  have hw : ∀ y : Int, 0 ≤ y → y ≤ 200 → wrap64 (y - 1) = y - 1 := fun y h g => by unfold wrap64; omega
  have L : ∀ (n i : Nat) (x1 : Int), i + n = x.f3.length → -1 ≤ x1 → x1 ≤ 200 → ∃ t, Tot (fun k => malthouseref02_Weight.l0 k x1 (i : Int) x.f0 x.f1 x.f2 x.f3) t ∧ 0 ≤ t ∧ (0 ≤ x1 → t ≤ x1) ∧ (x1 < 0 → t = 0) ∧ (t ≠ 0 → ∀ y ∈ x.f3.drop i, OkE y) := by
    intro n
    induction n with
    | zero =>
      intro i x1 e g1 g2
      refine ⟨if x1 < 0 then 0 else x1, Tot.succ ?_, by split <;> omega, fun h => by split <;> omega, fun h => by rw [if_pos h], fun _ y hy => by rw [List.drop_eq_nil_of_le (by omega)] at hy; cases hy⟩
      simp only [malthouseref02_Weight.l0, if_neg (show ¬ (i : Int) < (x.f3.length : Int) by omega)]
      split <;> exact Tot.const _
    | succ n ihn =>
      intro i x1 e g1 g2
      by_cases hx : x1 > 0
      · obtain ⟨t, ht, t0, tb, tk⟩ := ih _ (rd_mem (show i < x.f3.length by omega)) x1 (by omega) g2
        obtain ⟨t', ht', t0', tb', tn', tk'⟩ := ihn (i + 1) t (by omega) (by omega) (by omega)
        refine ⟨t', Tot.succ ?_, t0', fun _ => by have := tb' t0; omega, fun h => by omega, fun hne y hy => ?_⟩
        · simp only [malthouseref02_Weight.l0, if_pos (show (i : Int) < (x.f3.length : Int) by omega), if_pos hx, if_pos (show 0 ≤ (i : Int) by omega), w1 (show 0 ≤ (i : Int) by omega) (show (i : Int) < 9223372036854775807 by omega)]
          exact Tot.bind ht ht'
        · rw [drop34 (show i < x.f3.length by omega)] at hy
          rcases List.mem_cons.mp hy with rfl | hy
          · refine tk (fun e => hne ?_)
            have := tb' t0; omega
          · exact tk' hne y hy
      · refine ⟨0, Tot.succ ?_, by omega, fun h => by omega, fun _ => rfl, fun h => absurd rfl h⟩
        simp only [malthouseref02_Weight.l0, if_pos (show (i : Int) < (x.f3.length : Int) by omega), if_neg hx]
        by_cases h0 : x1 < 0
        · simp only [if_pos h0]; exact Tot.const _
        · simp only [if_neg h0]
          obtain rfl : x1 = 0 := by omega
          exact Tot.const _
  obtain ⟨t, ht, t0, tb, tn, tk⟩ := L x.f3.length 0 (b - 1) (by omega) (by omega) (by omega)
  refine ⟨t, Tot.succ ?_, t0, by by_cases h : 0 ≤ b - 1; have := tb h; omega; have := tn (by omega); omega, fun hne => OkE.mk x h1 (by omega) (by omega) (fun y hy => tk hne y (by rwa [List.drop_zero]))⟩
  simp only [malthouseref02_Weight.f, if_neg hl, hs, decide_false]
  refine Tot.succ ?_
  simp only [malthouseref02_Weight.j0, if_neg (show ¬ (false = true) by decide), hw b hb0 hb]
  exact ht
theorem truth_tot (b : Bool) : ∃ t, expr_truth.f b = some t ∧ I64 t := by
  unfold expr_truth.f; split
  · exact ⟨1, rfl, by decide⟩
  · exact ⟨0, rfl, by decide⟩
theorem minus_tot (a b : Int) : ∃ p, expr_minus.f a b = some p ∧ I64 p.1 := by
  unfold expr_minus.f; split
  · exact ⟨_, rfl, by decide⟩
  · exact ⟨_, rfl, I64.w _⟩
theorem plus_tot (a b : Int) : ∃ p, expr_plus.f a b = some p ∧ I64 p.1 := by
  unfold expr_plus.f; split
  · exact ⟨_, rfl, by decide⟩
  · exact ⟨_, rfl, I64.w _⟩
theorem tmod_I64 {a : Int} (b : Int) (h : I64 a) : I64 (Int.tmod a b) := by
  have h1 := Int.natAbs_tmod a b
  have h2 := Nat.mod_le a.natAbs b.natAbs
  unfold I64 at *
  rcases Int.le_total 0 a with h0 | h0
  · have := Int.tmod_nonneg b h0; omega
  · have h3 := Int.tmod_nonneg b (show 0 ≤ -a by omega)
    rw [Int.neg_tmod] at h3; omega
theorem divide_tot (op a b : Int) (ha : I64 a) : ∃ p, Tot (fun k => expr_divide.f k op a b) p ∧ I64 p.1 := by
  unfold expr_divide.f
  by_cases h0 : b = 0
  · simp only [if_pos h0]; exact ⟨_, Tot.const _, by decide⟩
  simp only [if_neg h0]
  have J : ∀ x11 : Bool, ∃ p, Tot (fun k => expr_divide.j0 k op a b x11) p ∧ I64 p.1 := by
    intro x11
    cases x11 with
    | true => exact ⟨(0, 0), Tot.succ (by simp only [expr_divide.j0, if_true]; exact Tot.const _), by decide⟩
    | false =>
      by_cases h8 : op = 8
      · exact ⟨_, Tot.succ (by simp only [expr_divide.j0, if_neg (show ¬ (false = true) by decide), if_pos h8, if_neg h0]; exact Tot.const _), tmod_I64 b ha⟩
      · by_cases hm : b = -1
        · obtain ⟨p, hp, ip⟩ := minus_tot 0 a
          exact ⟨_, Tot.succ (by simp only [expr_divide.j0, if_neg (show ¬ (false = true) by decide), if_neg h8, if_pos hm, hp, Option.bind_some]; exact Tot.const _), ip⟩
        · exact ⟨_, Tot.succ (by simp only [expr_divide.j0, if_neg (show ¬ (false = true) by decide), if_neg h8, if_neg hm, if_neg h0]; exact Tot.const _), I64.w _⟩
  split
  · exact J _
  · exact J _
theorem two_tot (op a b : Int) (ha : I64 a) (hb : I64 b) : ∃ p, Tot (fun k => expr_two.f k op a b) p ∧ I64 p.1 := by
  have T : ∀ c : Bool, ∃ p : Int × Int, Tot (fun _ => (expr_truth.f c).bind fun t => (some (t, (0 : Int)))) p ∧ I64 p.1 := fun c => by
    obtain ⟨t, ht, it⟩ := truth_tot c
    exact ⟨(t, 0), by simp only [ht, Option.bind_some]; exact Tot.const _, it⟩
  have J : ∀ (x8 : Int) (x30 : Bool), ∃ p, Tot (fun k => expr_two.j0 k op a b x8 x30) p ∧ I64 p.1 := by
    intro x8 x30
    suffices h : ∃ p, Tot (fun k => expr_two.j0 (k + 1) op a b x8 x30) p ∧ I64 p.1 by
      obtain ⟨p, hp, ip⟩ := h; exact ⟨p, Tot.succ hp, ip⟩
    simp only [expr_two.j0]
    cases x30 with
    | true =>
      obtain ⟨p, hp, ip⟩ := divide_tot op a b ha
      exact ⟨(p.1, p.2), Tot.bind hp (Tot.const _), ip⟩
    | false =>
      simp only [if_neg (show ¬ (false = true) by decide)]
      repeat' split
      all_goals exact T _
  unfold expr_two.f
  split
  · obtain ⟨p, hp, ip⟩ := plus_tot a b
    exact ⟨(p.1, p.2), by simp only [hp, Option.bind_some]; exact Tot.const _, ip⟩
  split
  · obtain ⟨p, hp, ip⟩ := minus_tot a b
    exact ⟨(p.1, p.2), by simp only [hp, Option.bind_some]; exact Tot.const _, ip⟩
  split
  · unfold expr_times.f
    simp only [if_pos (And.intro ha hb), Option.bind_some]
    refine ⟨_, Tot.const _, ?_⟩
    split
    · assumption
    · decide
  split
  · exact J _ _
  · exact J _ _
theorem line_tot (op : Int) : ∃ v, Tot (fun k => expr_line.f k op) v := by
  have J1 : ∀ b, ∃ v, Tot (fun k => expr_line.j1 k op b) v := fun b => by
    suffices h : ∃ v, Tot (fun k => expr_line.j1 (k + 1) op b) v by obtain ⟨v, h⟩ := h; exact ⟨v, Tot.succ h⟩
    simp only [expr_line.j1]
    repeat' split
    all_goals exact ⟨_, Tot.const _⟩
  have J0 : ∀ b, ∃ v, Tot (fun k => expr_line.j0 k op b) v := fun b => by
    suffices h : ∃ v, Tot (fun k => expr_line.j0 (k + 1) op b) v by obtain ⟨v, h⟩ := h; exact ⟨v, Tot.succ h⟩
    simp only [expr_line.j0]
    repeat' split
    all_goals first | exact J1 _ | exact ⟨_, Tot.const _⟩
  unfold expr_line.f
  repeat' split
  all_goals first | exact J0 _ | exact ⟨_, Tot.const _⟩
theorem wrapped_tot (x : S34) (i : Nat) (hi : i < x.f3.length) : ∃ v, Tot (fun k => expr_wrapped.f k x.f0 x.f1 x.f2 x.f3 (i : Int)) v := by
  obtain ⟨v, hv⟩ := line_tot x.f0
  obtain ⟨u, hu⟩ := line_tot (rd_T34 x.f3 (i : Int)).f0
  have : ∃ b, Tot (fun _ : Nat => (if u < v then (some true) else (if u = v then (if v < 6 then (if (i : Int) = 1 then (some true) else (some (v == 3))) else (some false)) else (some false)) : Option Bool)) b := by
    repeat' split
    all_goals exact ⟨_, Tot.const _⟩
  obtain ⟨b, hb⟩ := this
  refine ⟨b, Tot.bind hv ?_⟩
  simp only [if_pos (show 0 ≤ (i : Int) by omega), if_pos (show (i : Int) < (x.f3.length : Int) by omega)]
  exact Tot.bind hu hb
def OkC (en : List S69) : Prop := ∀ c ∈ en, I64 c.f1
theorem OkC.rd {en : List S69} (h : OkC en) (i : Int) : I64 (rd_T69 en i).f1 := by
  unfold rd_T69
  rw [List.getD]
  cases e : en[i.toNat]? with
  | none => decide
  | some c => exact h c (List.mem_of_getElem? e)
def Nice (x : S34) (t : Int) : Prop :=
  (∀ acc : List ByteArray, (acc.length : Int) + t < 8796093022208 → ∃ l, Tot (fun k => namesF k x.f0 x.f2 x.f3 acc) l ∧ (l.length : Int) ≤ acc.length + t) ∧
  ∀ en, OkC en → ∃ p, Tot (fun k => expr_reckon.f k x.f0 x.f1 x.f2 x.f3 en) p ∧ I64 p.1
def NiceL (ks : List S34) (t : Int) : Prop :=
  (∀ acc : List ByteArray, (acc.length : Int) + t < 8796093022208 → ∃ l, Tot (fun k => namesL k ks acc) l ∧ (l.length : Int) ≤ acc.length + t) ∧
  ∀ x ∈ ks, ∀ en, OkC en → ∃ p, Tot (fun k => expr_reckon.f k x.f0 x.f1 x.f2 x.f3 en) p ∧ I64 p.1
theorem NiceL.nil {t : Int} (ht : 0 ≤ t) : NiceL [] t := ⟨fun acc _ => ⟨acc, Tot.succ (by simp only [namesL]; exact Tot.const _), by omega⟩, fun x hx => nomatch hx⟩
theorem NiceL.cons {x : S34} {ks : List S34} {s t u : Int} (h : Nice x s) (g : NiceL ks t) (hs : 0 ≤ s) (ht : 0 ≤ t) (hu : s + t ≤ u) : NiceL (x :: ks) u := by
  refine ⟨fun acc ha => ?_, fun y hy => ?_⟩
  · obtain ⟨l, hl, ll⟩ := h.1 acc (by omega)
    obtain ⟨m, hm, lm⟩ := g.1 l (by omega)
    exact ⟨m, Tot.succ (by simp only [namesL]; exact Tot.bind hl hm), by omega⟩
  · rcases List.mem_cons.mp hy with rfl | hy
    · exact h.2
    · exact g.2 y hy
theorem I64.zero : I64 0 := by decide
theorem nameTok (x : S34) (h : x.f2.size ≤ 200) (hop : x.f0 = 1) : ∃ t : Int, Tot (fun _ : Nat => ((lex_Name.f x.f2).bind fun t102 => (if t102 = true then (some 1) else (some (-1))) : Option Int)) t ∧ (t = -1 ∨ (1 ≤ t ∧ t ≤ 65 ∧ Nice x t)) := by
  obtain ⟨b, hb⟩ := Name_tot x.f2 (by omega)
  simp only [hb, Option.bind_some]
  cases b with
  | true =>
    refine ⟨1, Tot.const _, .inr ⟨by omega, by omega, fun acc ha => ?_, fun en he => ?_⟩⟩
    · refine ⟨acc ++ [x.f2], Tot.succ ?_, by simp⟩
      simp only [namesF, if_pos hop, if_pos (show acc.length < 8796093022208 by omega)]
      exact Tot.const _
    · have hi := he.rd (idxC x.f2 en)
      by_cases hj : idxC x.f2 en < 0
      · refine ⟨(0, 21), Tot.succ ?_, by decide⟩
        simp only [expr_reckon.f, if_neg (show ¬ x.f0 = 0 by omega), if_pos hop, expr_cell.f, if_pos hj, Option.bind_some, if_neg (show ¬ (false = true) by decide)]
        exact Tot.const _
      · refine ⟨((rd_T69 en (idxC x.f2 en)).f1, 0), Tot.succ ?_, hi⟩
        simp only [expr_reckon.f, if_neg (show ¬ x.f0 = 0 by omega), if_pos hop, expr_cell.f, if_neg hj, Option.bind_some, if_true]
        exact Tot.const _
  | false => exact ⟨-1, Tot.const _, .inl rfl⟩
theorem num_nice (x : S34) (h1 : I64 x.f1) (hk : x.f3 = []) (hop : x.f0 = 0) : Nice x 1 := by
  refine ⟨fun acc ha => ⟨acc, Tot.succ ?_, by omega⟩, fun en he => ⟨(x.f1, 0), Tot.succ ?_, h1⟩⟩
  · simp only [namesF, if_neg (show ¬ x.f0 = 1 by omega), hk]
    exact Tot.succ (by simp only [namesL]; exact Tot.const _)
  · simp only [expr_reckon.f, if_pos hop]; exact Tot.const _
theorem node_nice (x : S34) {t : Int} (h0 : x.f0 ≠ 0) (h1 : x.f0 ≠ 1) (hl : 0 < x.f3.length) (h2 : x.f0 ≠ 2 → x.f0 ≠ 3 → 1 < x.f3.length) (h : NiceL x.f3 t) : Nice x t := by
  refine ⟨fun acc ha => ?_, fun en he => ?_⟩
  · obtain ⟨l, hl, ll⟩ := h.1 acc ha
    exact ⟨l, Tot.succ (by simp only [namesF, if_neg h1]; exact hl), ll⟩
  · obtain ⟨p, hp, ip⟩ := h.2 _ (rd_mem hl) en he
    suffices h : ∃ q, Tot (fun k => expr_reckon.f (k + 1) x.f0 x.f1 x.f2 x.f3 en) q ∧ I64 q.1 by
      obtain ⟨q, hq, iq⟩ := h; exact ⟨q, Tot.succ hq, iq⟩
    simp only [expr_reckon.f, if_neg h0, if_neg h1, if_pos (show (0 : Int) < (x.f3.length : Int) by omega)]
    by_cases hp2 : p.2 = 0
    · by_cases o2 : x.f0 = 2
      · obtain ⟨q, hq, iq⟩ := minus_tot 0 p.1
        exact ⟨(q.1, q.2), Tot.bind hp (by simp only [if_pos hp2, if_pos o2, hq, Option.bind_some]; exact Tot.const _), iq⟩
      by_cases o3 : x.f0 = 3
      · obtain ⟨q, hq, iq⟩ := truth_tot (p.1 == 0)
        exact ⟨(q, 0), Tot.bind hp (by simp only [if_pos hp2, if_neg o2, if_pos o3, hq, Option.bind_some]; exact Tot.const _), iq⟩
      obtain ⟨q, hq, iq⟩ := h.2 _ (rd_mem (h2 o2 o3)) en he
      by_cases hq2 : q.2 = 0
      · obtain ⟨r, hr, ir⟩ := two_tot x.f0 p.1 q.1 ip iq
        refine ⟨(r.1, r.2), Tot.bind hp ?_, ir⟩
        simp only [if_pos hp2, if_neg o2, if_neg o3, if_pos (show (1 : Int) < (x.f3.length : Int) by have := h2 o2 o3; omega)]
        refine Tot.bind hq ?_
        simp only [if_pos hq2]
        exact Tot.bind hr (Tot.const _)
      · refine ⟨(0, q.2), Tot.bind hp ?_, I64.zero⟩
        simp only [if_pos hp2, if_neg o2, if_neg o3, if_pos (show (1 : Int) < (x.f3.length : Int) by have := h2 o2 o3; omega)]
        refine Tot.bind hq ?_
        simp only [if_neg hq2]
        exact Tot.const _
    · exact ⟨(0, p.2), Tot.bind hp (by simp only [if_neg hp2]; exact Tot.const _), I64.zero⟩
theorem tokens_tot {x : S34} (h : OkE x) : ∀ b : Int, 0 ≤ b → b ≤ 64 → ∃ t, Tot (fun k => expr_tokens.f k x.f0 x.f1 x.f2 x.f3 b) t ∧ (t = -1 ∨ (1 ≤ t ∧ t ≤ 65 ∧ Nice x t)) := by
  induction h with
  | mk x h1 h2 h3 h4 ih =>
  intro b hb0 hb
  -- the loop
  have L : ∀ (n i : Nat) (x6 : Int), i + n = x.f3.length → 1 ≤ x6 → x6 ≤ b → ∃ t, Tot (fun k => expr_tokens.l0 k b x6 x.f3 (x.f3.length : Int) (i : Int) x.f0 x.f1 x.f2 x.f3) t ∧ (t = -1 ∨ (x6 ≤ t ∧ t ≤ b ∧ NiceL (x.f3.drop i) (t - x6))) := by
    intro n
    induction n with
    | zero =>
      intro i x6 e g1 g2
      refine ⟨x6, Tot.succ ?_, .inr ⟨by omega, g2, ?_⟩⟩
      · simp only [expr_tokens.l0, if_neg (show ¬ (i : Int) < (x.f3.length : Int) by omega)]; exact Tot.const _
      · rw [List.drop_eq_nil_of_le (by omega)]; exact NiceL.nil (by omega)
    | succ n ihn =>
      intro i x6 e g1 g2
      have hi : i < x.f3.length := by omega
      have hw : wrap64 (b - x6) = b - x6 := by unfold wrap64; omega
      obtain ⟨t, ht, tk⟩ := ih _ (rd_mem hi) (b - x6) (by omega) (by omega)
      obtain ⟨v, hv⟩ := wrapped_tot x i hi
      suffices hs : ∃ t, Tot (fun k => expr_tokens.l0 (k + 1) b x6 x.f3 (x.f3.length : Int) (i : Int) x.f0 x.f1 x.f2 x.f3) t ∧ (t = -1 ∨ (x6 ≤ t ∧ t ≤ b ∧ NiceL (x.f3.drop i) (t - x6))) by
        obtain ⟨t, h1, h2⟩ := hs; exact ⟨t, Tot.succ h1, h2⟩
      simp only [expr_tokens.l0, if_pos (show (i : Int) < (x.f3.length : Int) by omega), if_pos (show 0 ≤ (i : Int) by omega), hw, w1 (show 0 ≤ (i : Int) by omega) (show (i : Int) < 9223372036854775807 by omega)]
      rcases tk with rfl | ⟨t1, t2, tn⟩
      · exact ⟨-1, Tot.bind ht (by simp only [if_pos (show (-1 : Int) < 0 by decide)]; exact Tot.const _), .inl rfl⟩
      · have w2 : wrap64 (x6 + t) = x6 + t := by unfold wrap64; omega
        have w3 : wrap64 (x6 + t + 2) = x6 + t + 2 := by unfold wrap64; omega
        cases v with
        | true =>
          by_cases hc : x6 + t + 2 > b
          · exact ⟨-1, Tot.bind ht (by simp only [if_neg (show ¬ t < 0 by omega)]; exact Tot.bind hv (by simp only [if_true, w2, w3, if_pos hc]; exact Tot.const _)), .inl rfl⟩
          · obtain ⟨u, hu, uk⟩ := ihn (i + 1) (x6 + t + 2) (by omega) (by omega) (by omega)
            refine ⟨u, Tot.bind ht (by simp only [if_neg (show ¬ t < 0 by omega)]; exact Tot.bind hv (by simp only [if_true, w2, w3, if_neg hc]; exact hu)), ?_⟩
            rcases uk with rfl | ⟨u1, u2, un⟩
            · exact .inl rfl
            · exact .inr ⟨by omega, u2, by rw [drop34 hi]; exact NiceL.cons tn un (by omega) (by omega) (by omega)⟩
        | false =>
          by_cases hc : x6 + t > b
          · exact ⟨-1, Tot.bind ht (by simp only [if_neg (show ¬ t < 0 by omega)]; exact Tot.bind hv (by simp only [if_neg (show ¬ (false = true) by decide), w2, if_pos hc]; exact Tot.const _)), .inl rfl⟩
          · obtain ⟨u, hu, uk⟩ := ihn (i + 1) (x6 + t) (by omega) (by omega) (by omega)
            refine ⟨u, Tot.bind ht (by simp only [if_neg (show ¬ t < 0 by omega)]; exact Tot.bind hv (by simp only [if_neg (show ¬ (false = true) by decide), w2, if_neg hc]; exact hu)), ?_⟩
            rcases uk with rfl | ⟨u1, u2, un⟩
            · exact .inl rfl
            · exact .inr ⟨by omega, u2, by rw [drop34 hi]; exact NiceL.cons tn un (by omega) (by omega) (by omega)⟩
  have F1 : Tot (fun k => expr_tokens.j2 k b true x.f0 x.f1 x.f2 x.f3) (-1) := Tot.succ (by simp only [expr_tokens.j2, if_true]; exact Tot.const _)
  by_cases o0 : x.f0 = 0
  · -- a number
    suffices hs : ∃ t, Tot (fun k => expr_tokens.j0 (k + 1) b 2 x.f0 true x.f0 x.f1 x.f2 x.f3) t ∧ (t = -1 ∨ (1 ≤ t ∧ t ≤ 65 ∧ Nice x t)) by
      obtain ⟨t, h1, h2⟩ := hs
      refine ⟨t, Tot.succ ?_, h2⟩
      simp only [expr_tokens.f, if_pos o0, show (x.f0 == 0) = true by simp [o0]]
      exact Tot.succ h1
    simp only [expr_tokens.j0, if_true, if_pos o0, if_neg (show ¬ x.f0 = 1 by omega)]
    by_cases hk : (x.f3.length : Int) > 0
    · simp only [if_pos hk]; exact ⟨-1, Tot.const _, .inl rfl⟩
    · simp only [if_neg hk]
      split
      · exact ⟨-1, Tot.const _, .inl rfl⟩
      · split
        · exact ⟨1, Tot.const _, .inr ⟨by omega, by omega, num_nice x h1 (List.length_eq_zero_iff.mp (by omega)) o0⟩⟩
        · exact ⟨-1, Tot.const _, .inl rfl⟩
  by_cases o1 : x.f0 = 1
  · suffices hs : ∃ t, Tot (fun k => expr_tokens.j0 (k + 1) b 2 x.f0 true x.f0 x.f1 x.f2 x.f3) t ∧ (t = -1 ∨ (1 ≤ t ∧ t ≤ 65 ∧ Nice x t)) by
      obtain ⟨t, h1, h2⟩ := hs
      refine ⟨t, Tot.succ ?_, h2⟩
      simp only [expr_tokens.f, if_neg o0, show (x.f0 == 1) = true by simp [o1]]
      exact Tot.succ h1
    simp only [expr_tokens.j0, if_true, if_neg o0, if_pos o1]
    split
    · exact ⟨-1, Tot.const _, .inl rfl⟩
    · split
      · exact nameTok x h2 o1
      · exact ⟨-1, Tot.const _, .inl rfl⟩
  -- an operator
  have J1 : ∀ x5 : Int, (x5 = 2 ∨ x5 = 1 ∧ (x.f0 = 2 ∨ x.f0 = 3)) → ∃ t, Tot (fun k => expr_tokens.j1 k b x5 x.f0 x.f1 x.f2 x.f3) t ∧ (t = -1 ∨ (1 ≤ t ∧ t ≤ 65 ∧ Nice x t)) := by
    intro x5 h5
    suffices hs : ∃ t, Tot (fun k => expr_tokens.j1 (k + 1) b x5 x.f0 x.f1 x.f2 x.f3) t ∧ (t = -1 ∨ (1 ≤ t ∧ t ≤ 65 ∧ Nice x t)) by
      obtain ⟨t, h1, h2⟩ := hs; exact ⟨t, Tot.succ h1, h2⟩
    simp only [expr_tokens.j1]
    split
    · exact ⟨-1, F1, .inl rfl⟩
    split
    · exact ⟨-1, F1, .inl rfl⟩
    split
    · split
      · split
        · rename_i hx5
          by_cases hb1 : b < 1
          · simp only [hb1, decide_true]; exact ⟨-1, F1, .inl rfl⟩
          · obtain ⟨t, ht, tk⟩ := L x.f3.length 0 1 (by omega) (by omega) (by omega)
            refine ⟨t, Tot.succ (by simp only [expr_tokens.j2, hb1, decide_false, if_neg (show ¬ (false = true) by decide)]; exact ht), ?_⟩
            rcases tk with rfl | ⟨t1, t2, tn⟩
            · exact .inl rfl
            · rw [List.drop_zero] at tn
              refine .inr ⟨by omega, by omega, node_nice x o0 o1 (by omega) (fun g2 g3 => by omega) ⟨fun acc ha => ?_, tn.2⟩⟩
              obtain ⟨l, hl, ll⟩ := tn.1 acc (by omega)
              exact ⟨l, hl, by omega⟩
        · exact ⟨-1, F1, .inl rfl⟩
      · exact ⟨-1, F1, .inl rfl⟩
    · exact ⟨-1, F1, .inl rfl⟩
  suffices hs : ∃ t, Tot (fun k => expr_tokens.j0 (k + 1) b 2 x.f0 false x.f0 x.f1 x.f2 x.f3) t ∧ (t = -1 ∨ (1 ≤ t ∧ t ≤ 65 ∧ Nice x t)) by
    obtain ⟨t, h1, h2⟩ := hs
    refine ⟨t, Tot.succ ?_, h2⟩
    simp only [expr_tokens.f, if_neg o0, show (x.f0 == 1) = false by simp [o1]]
    exact Tot.succ h1
  simp only [expr_tokens.j0, if_neg (show ¬ (false = true) by decide)]
  by_cases o2 : x.f0 = 2
  · simp only [if_pos o2]; exact J1 1 (.inr ⟨rfl, .inl o2⟩)
  by_cases o3 : x.f0 = 3
  · simp only [if_neg o2, if_pos o3]; exact J1 1 (.inr ⟨rfl, .inr o3⟩)
  simp only [if_neg o2, if_neg o3]
  exact J1 2 (.inl rfl)
theorem May_tot {x : S34} (h : OkE x) : ∃ b, Tot (fun k => expr_May.f k x.f0 x.f1 x.f2 x.f3) b ∧ (b = true → Nice x 65) := by
  obtain ⟨t, ht, tk⟩ := tokens_tot h 64 (by omega) (by omega)
  by_cases h0 : t > 0
  · refine ⟨decide (t ≤ 64), Tot.bind ht (by simp only [if_pos h0]; exact Tot.const _), fun _ => ?_⟩
    rcases tk with rfl | ⟨t1, t2, tn⟩
    · omega
    · refine ⟨fun acc ha => ?_, tn.2⟩
      obtain ⟨l, hl, ll⟩ := tn.1 acc (by omega)
      exact ⟨l, hl, by omega⟩
  · exact ⟨false, Tot.bind ht (by simp only [if_neg h0]; exact Tot.const _), fun h => by cases h⟩
theorem Names_tot {x : S34} (h : OkE x) : ∃ l, Tot (fun k => expr_Names.f k x.f0 x.f1 x.f2 x.f3) l ∧ l.length ≤ 65 := by
  obtain ⟨b, hb, nb⟩ := May_tot h
  cases b with
  | true =>
    obtain ⟨l, hl, ll⟩ := (nb rfl).1 [] (by simp)
    simp only [List.length_nil, Int.natCast_zero, Int.zero_add] at ll
    refine ⟨namesOut l, Tot.bind hb ?_, ?_⟩
    · simp only [if_true]
      exact Tot.bind hl (by simp only [if_pos (show l.length < 8796093022208 by omega)]; exact Tot.const _)
    · rw [namesOut_len]
      have h1 : (cmpL l).length ≤ (srtL l).length := Lib.compact_length_le (srtL l)
      have h2 : (srtL l).length = l.length := by unfold srtL; rw [List.length_mergeSort, List.length_map]
      omega
  | false => exact ⟨[], Tot.bind hb (by simp only [if_neg (show ¬ (false = true) by decide)]; exact Tot.const _), by simp⟩
theorem strangeN_tot {x : S34} (h : OkE x) (tg : List ByteArray) : Tot (fun k => rung_strangeN.f k x.f0 x.f1 x.f2 x.f3 tg) false := by
  obtain ⟨l, hl, ll⟩ := Names_tot h
  have L : ∀ (n i : Nat), i + n = l.length → Tot (fun k => rung_strangeN.l0 k l (l.length : Int) (i : Int)) false := by
    intro n
    induction n with
    | zero => intro i e; exact Tot.succ (by simp only [rung_strangeN.l0, if_neg (show ¬ (i : Int) < (l.length : Int) by omega)]; exact Tot.const _)
    | succ n ihn =>
      intro i e
      refine Tot.succ ?_
      simp only [rung_strangeN.l0, if_pos (show (i : Int) < (l.length : Int) by omega), if_pos (show 0 ≤ (i : Int) by omega), w1 (show 0 ≤ (i : Int) by omega) (show (i : Int) < 9223372036854775807 by omega)]
      exact ihn (i + 1) (by omega)
  exact Tot.bind hl (L l.length 0 (by omega))
theorem Eval_tot {x : S34} (h : OkE x) {en : List S69} (he : OkC en) : ∃ p, Tot (fun k => expr_Eval.f k x.f0 x.f1 x.f2 x.f3 en) p ∧ I64 p.1 := by
  obtain ⟨b, hb, nb⟩ := May_tot h
  cases b with
  | true =>
    obtain ⟨p, hp, ip⟩ := (nb rfl).2 en he
    exact ⟨(p.1, p.2), Tot.bind hb (by simp only [if_true]; exact Tot.bind hp (Tot.const _)), ip⟩
  | false => exact ⟨(0, 1), Tot.bind hb (by simp only [if_neg (show ¬ (false = true) by decide)]; exact Tot.const _), by decide⟩
end Go.Proofs.YtiaccdaeomaogaaDoor.F
namespace Go.Proofs.YtiaccdaeomaogaaDoor.F
open Go.RowKit Go.Proofs.YtiaccdaeomaogaaDoorW.PrintWords Go.Proofs.YtiaccdaeomaogaaDoorW.PrintLast Go.Proofs.YtiaccdaeomaogaaDoorW.PrintMore
attribute [local go_sem] max2_int min2_int max_two min_two max_three min_three max_four min_four   -- for this text's walks alone
set_option linter.unusedVariables false
set_option linter.unusedSimpArgs false
def rung_Bits.l0 : Nat → List ByteArray → List (S43) → Int → Int → Option (List ByteArray)
  | 0, _, _, _, _ => none
  | k + 1, x3, x6, x7, x8 => if x8 < x7 then (if 0 ≤ x8 then (if x8 < (x6.length : Int) then (if ((rd_T43 x6 x8).f0) ≥ 0 then (if ((rd_T43 x6 x8).f0) ≤ 2 then ((rung_once.f k x3 ((rd_T43 x6 x8).f1)).bind fun t103 => (rung_Bits.l0 k t103 x6 x7 (wrap64 (x8 + 1)))) else (rung_Bits.l0 k x3 x6 x7 (wrap64 (x8 + 1)))) else (rung_Bits.l0 k x3 x6 x7 (wrap64 (x8 + 1)))) else (none)) else (none)) else (some x3)
def rung_Bits.f (k : Nat) (l0 : List (S43)) : Option (List ByteArray) := rung_Bits.l0 k ([] : List ByteArray) l0 (l0.length : Int) 0
theorem rung_Bits.mono_l : ∀ k, (∀ y0 y1 y2 y3, LeO (rung_Bits.l0 k y0 y1 y2 y3) (rung_Bits.l0 (k + 1) y0 y1 y2 y3))
  | 0 => fun _ _ _ _ r h => by simp [rung_Bits.l0] at h
  | k + 1 => by
    have ih0 := rung_Bits.mono_l k
    · intro y0 y1 y2 y3
      unfold rung_Bits.l0
      repeat' first
      | (with_reducible exact ih0 _ _ _ _)
      | (with_reducible exact rung_once.mono _ _ _)
      | (with_reducible exact LeO.refl _)
      | (with_reducible exact LeO.none _)
      | (with_reducible refine LeO.ite ?_ ?_)
      | (with_reducible refine LeO.bind ?_ (fun _ => ?_))
      | exact ih0 _ _ _ _
      | exact rung_once.mono _ _ _
      | exact LeO.none _
      | refine LeO.ite ?_ ?_
      | refine LeO.bind ?_ (fun _ => ?_)
theorem rung_Bits.mono : ∀ a0 k, LeO (rung_Bits.f k a0) (rung_Bits.f (k + 1) a0) := by
  intro a0 k
  have ih0 := rung_Bits.mono_l k
  unfold rung_Bits.f
  repeat' first
      | (with_reducible exact ih0 _ _ _ _)
      | (with_reducible exact rung_once.mono _ _ _)
      | (with_reducible exact LeO.refl _)
      | (with_reducible exact LeO.none _)
      | (with_reducible refine LeO.ite ?_ ?_)
      | (with_reducible refine LeO.bind ?_ (fun _ => ?_))
      | exact ih0 _ _ _ _
      | exact rung_once.mono _ _ _
      | exact LeO.none _
      | refine LeO.ite ?_ ?_
      | refine LeO.bind ?_ (fun _ => ?_)
set_option maxHeartbeats 8000000 in
set_option maxRecDepth 100000 in
theorem rung_Bits.calls (k : Nat) (A0 : Option Addr) (c0 : Nat) (l0 : List (S43)) (r : List ByteArray) (w : World) (hr0 : Kd.C k43 w A0 l0.length l0) (hc0 : l0.length ≤ c0) (h : rung_Bits.f k l0 = some r) :
    Calls Tryd.prog 23 #[.slice A0 l0.length c0] w fun e w' => ∃ v0_ : Value, e = .returned (v0_) ∧ Kd.R Kd.string 9 w' w.heap.size (fun _ => True) v0_ r ∧ Below w.heap.size w w' := by
  have hu43 := Tryd.underlying43
  have HR0 := Aside0.mk hr0
  have HC0 := Aside0.mk hc0
  clear hr0 hc0
  have HB := Aside0.mk (Below.refl w.heap.size w)
  have H : (rung_Bits.l0 k ([] : List ByteArray) l0 (l0.length : Int) 0) = some r := h
  clear h
  have H' := Aside0.mk H
  clear H
  go_enter Tryd.func23, Tryd.ntmps23
  go_wp2
  go_loopg [3, 8] k (fun kq v3 v8 w' => ∃ (x3_1 : List ByteArray) (x8_1 : Int), v8 = .int .i64 x8_1 ∧ Aside0 (rung_Bits.l0 kq x3_1 l0 (l0.length : Int) x8_1 = some r) ∧ Aside0 (kq ≤ k) ∧ Aside0 (Kd.R Kd.string 9 w' w.heap.size (fun _ => True) v3 x3_1) ∧ Aside0 (Below w.heap.size w w'))
  case atStart => exact ⟨(([] : List ByteArray)), (0), qv, H', ⟨Nat.le_refl _⟩, ⟨by first | exact Kd.R_nil _ _ _ _ _ | exact Kd.N_nil _ _ _ _ _ | exact Kd.V_nil _ _ _ _ _ | exact Kd.Q_nil _ _ _ _ _ | exact Kd.S_nil _ _ _ _ _⟩, qB⟩
  case round =>
    clear H'
    obtain ⟨x3_1, x8_1, rfl, HA, HK1, HO_3, HB⟩ := hrel
    cases gk with
    | zero => exact absurd HA.out (by simp [rung_Bits.l0])
    | succ k1 =>
      have H := HA.out
      clear HA
      simp only [rung_Bits.l0] at H
      by_cases c2 : x8_1 < (l0.length : Int)
      · rw [if_pos c2] at H
        have c2b0 : decide (x8_1 < (l0.length : Int)) = true := decide_eq_true c2
        clear c2
        by_cases c3 : 0 ≤ x8_1
        · rw [if_pos c3] at H
          have c3b0 : decide (0 ≤ x8_1) = true := decide_eq_true c3
          clear c3
          by_cases c4 : x8_1 < (l0.length : Int)
          · rw [if_pos c4] at H
            have c4b0 : decide (x8_1 < (l0.length : Int)) = true := decide_eq_true c4
            clear c4
            by_cases c5 : ((rd_T43 l0 x8_1).f0) ≥ 0
            · rw [if_pos c5] at H
              have c5b0 : decide (0 ≤ ((rd_T43 l0 x8_1).f0)) = true := decide_eq_true c5
              clear c5
              by_cases c6 : ((rd_T43 l0 x8_1).f0) ≤ 2
              · rw [if_pos c6] at H
                have c6b0 : decide (((rd_T43 l0 x8_1).f0) ≤ 2) = true := decide_eq_true c6
                clear c6
                replace H := qi H
                obtain ⟨t103, A7, H⟩ := H
                have H' := Aside0.mk H
                clear H
                have p101 : 0 ≤ (x8_1 : Int) := qa
                have q101 : x8_1 < (l0.length : Int) := qa
                obtain ⟨ad101, A101_2, c101_2, e101, hx101_0, hx101_1, hx101_2, hl101_2, hi101_2⟩ := at_T43 HR0.out x8_1 p101 q101
                cases e101
                replace hx101_0 := qc HB.out hx101_0
                replace hx101_1 := qc HB.out hx101_1
                replace hx101_2 := qc HB.out hx101_2
                have HR101_2 := Aside0.mk hi101_2
                have HC101_2 := Aside0.mk hl101_2
                clear hi101_2 hl101_2
                replace p101 := eq_true p101
                replace q101 := eq_true q101
                go_wp2_with (first | ((with_reducible refine gate_dst (N := 5) rfl ?_); refine box_event ?hg (N := 5) ?hd (cs := #[.int .i64 0, .string (⟨#[]⟩ : ByteArray), .slice none 0 0]) (t := 43) ?hr ?_; (case hd => rfl); (case hg => rfl); (case hr => first | (go_simp; done) | (go_simp; rfl)); intro gb102 hg w8 hbox hb; have n0_ := Aside0.mk (Kd.R_below (by (with_reducible repeat (first | apply Kd.R_alloc | apply Kd.R_drewN | apply Kd.R_drew)); exact HO_3.out) hb); have n1_ := qs hb; have n2_ := Aside0.mk (hbox); have n3_ := Aside0.mk ((by rw [hg]; exact (below_size qb) : w.heap.size ≤ gb102)); have n4_ := Aside0.mk ((by rw [hg]; exact (below_size qb) : w.heap.size ≤ gb102)); clear HO_3; clear HB; have HO_3 := n0_; have HB := n1_; have BK102 := n2_; have GW102 := n3_; have GE102 := n4_; clear n0_ n1_ n2_ n3_ n4_; clear hb hbox hg; obtain ⟨_, _, _, _, _, _⟩ := q3 BK102.out) | ((with_reducible refine gate_store (t := 43) (p := 5) rfl ?_); refine store_event (t := 43) (p := 5) (v := ?vo_w10) (w1 := (((w8.setCell ⟨gb102, 0, none⟩ (.int .i64 ((rd_T43 l0 x8_1).f0))).setCell ⟨gb102, 1, none⟩ (.string ((rd_T43 l0 x8_1).f1))).setCell ⟨gb102, 2, none⟩ (.slice A101_2 ((rd_T43 l0 x8_1).f2).length c101_2))) ?hg ?ho ?hn ?hr ?_; (case ho => rfl); (case hg => rfl); (case hn => rfl); (case hr => first | (go_simp; done) | (go_simp; rfl)); intro w10 hw; have n0_ : Aside0 (Kd.R Kd.string 9 w10 w.heap.size (fun _ => True) u3 x3_1) := ⟨(by rw [hw]; exact (by (with_reducible repeat (first | apply Kd.R_alloc | apply Kd.R_drewN | apply Kd.R_drew)); exact Kd.R_mono (Kd.R_far (p := ⟨gb102, 2, none⟩) (Kd.R_far (p := ⟨gb102, 1, none⟩) (Kd.R_far (p := ⟨gb102, 0, none⟩) (Kd.R_types HO_3.out BK102.out (by decide)) (fun _ hk => hk.2) (.int .i64 ((rd_T43 l0 x8_1).f0))) (fun _ hk => hk.2) (.string ((rd_T43 l0 x8_1).f1))) (fun _ hk => hk.2) (.slice A101_2 ((rd_T43 l0 x8_1).f2).length c101_2)) (fun _ hk => trivial)))⟩; have n1_ : Aside0 (w10.heap[gb102]? = some (.cells #[.int .i64 ((rd_T43 l0 x8_1).f0), .string ((rd_T43 l0 x8_1).f1), .slice A101_2 ((rd_T43 l0 x8_1).f2).length c101_2] 43 (0, 0))) := ⟨(by rw [hw]; exact qy)⟩; have n2_ : Aside0 (Below w.heap.size w w10) := ⟨(by rw [hw]; exact qb)⟩; clear hw; clear HO_3; clear BK102; clear HB; have HO_3 := n0_; have BK102 := n1_; have HB := n2_; clear n0_ n1_ n2_; obtain ⟨_, _, _, _, _, _⟩ := q3 BK102.out; obtain ⟨Ao12, co12, eo12⟩ := Kd.R_slice HO_3.out; subst eo12) | ((with_reducible refine gate_callee (f := 58) rfl ?_); refine goesL_ (some 23) rfl rfl Tryd.func58 (by kernel_rfl) rfl #[.slice Ao12 x3_1.length co12, .string ((rd_T43 l0 x8_1).f1)] rfl qm ?_; (with_reducible refine (rung_once.calls k1 (fun k_ => some k_ = (.slice Ao12 x3_1.length co12 : Value).ownBlock) (.slice Ao12 x3_1.length co12) x3_1 ((rd_T43 l0 x8_1).f1) t103 w _ ?side1 ?side2 A7.out).mono ?_); (case side1 => repeat (first | (with_reducible first | exact HB.out | apply below_alloc | apply pw_below_drewN | apply below_drew1 | refine below_set ?_ GE102.out) | exact HB.out)); (case side2 => exact Kd.R_tight rfl HO_3.out); rintro e w13 ⟨v104, rfl, ho0, hb, hkp⟩; refine ⟨_, rfl, ?_⟩; have n0_ := Aside0.mk (blk_kept (by (with_reducible repeat (first | refine blk_drewN ?_ _ | refine blk_drew ?_ | refine blk_alloc ?_ _)); exact BK102.out) hkp (fun hs_ => (fun e_ => (Kd.R_ne HO_3.out BK102.out (by decide)) e_) hs_)); have n1_ := Aside0.mk (Kd.R_mono (ok' := fun k_ => True) ho0 (fun k_ hk_ => trivial)); have n2_ := Aside0.mk (hb); clear BK102; clear HB; clear HO_3; have BK102 := n0_; have HO105 := n1_; have HB := n2_; clear n0_ n1_ n2_; (try clear hb); (try clear hkp); (try clear ho0)))
                go_roundg k1
                case measure => have := HK1.out; omega
                case rel => exact ⟨(t103), (wrap64 (x8_1 + 1)), qv, H', ⟨by have := HK1.out; omega⟩, ⟨by (with_reducible repeat (first | apply Kd.R_alloc | apply Kd.R_drewN | apply Kd.R_drew)); exact HO105.out⟩, qB⟩
              · rw [if_neg c6] at H
                have c6b0 : decide (((rd_T43 l0 x8_1).f0) ≤ 2) = false := decide_eq_false c6
                clear c6
                have H' := Aside0.mk H
                clear H
                have p101 : 0 ≤ (x8_1 : Int) := qa
                have q101 : x8_1 < (l0.length : Int) := qa
                obtain ⟨ad101, A101_2, c101_2, e101, hx101_0, hx101_1, hx101_2, hl101_2, hi101_2⟩ := at_T43 HR0.out x8_1 p101 q101
                cases e101
                replace hx101_0 := qc HB.out hx101_0
                replace hx101_1 := qc HB.out hx101_1
                replace hx101_2 := qc HB.out hx101_2
                have HR101_2 := Aside0.mk hi101_2
                have HC101_2 := Aside0.mk hl101_2
                clear hi101_2 hl101_2
                replace p101 := eq_true p101
                replace q101 := eq_true q101
                go_wp2_with (first | ((with_reducible refine gate_dst (N := 5) rfl ?_); refine box_event ?hg (N := 5) ?hd (cs := #[.int .i64 0, .string (⟨#[]⟩ : ByteArray), .slice none 0 0]) (t := 43) ?hr ?_; (case hd => rfl); (case hg => rfl); (case hr => first | (go_simp; done) | (go_simp; rfl)); intro gb102 hg w14 hbox hb; have n0_ := Aside0.mk (Kd.R_below (by (with_reducible repeat (first | apply Kd.R_alloc | apply Kd.R_drewN | apply Kd.R_drew)); exact HO_3.out) hb); have n1_ := qs hb; have n2_ := Aside0.mk (hbox); have n3_ := Aside0.mk ((by rw [hg]; exact (below_size qb) : w.heap.size ≤ gb102)); have n4_ := Aside0.mk ((by rw [hg]; exact (below_size qb) : w.heap.size ≤ gb102)); clear HO_3; clear HB; have HO_3 := n0_; have HB := n1_; have BK102 := n2_; have GW102 := n3_; have GE102 := n4_; clear n0_ n1_ n2_ n3_ n4_; clear hb hbox hg; obtain ⟨_, _, _, _, _, _⟩ := q3 BK102.out))
                go_roundg k1
                case measure => have := HK1.out; omega
                case rel => exact ⟨(x3_1), (wrap64 (x8_1 + 1)), qv, H', ⟨by have := HK1.out; omega⟩, ⟨by (with_reducible repeat (first | apply Kd.R_alloc | apply Kd.R_drewN | apply Kd.R_drew)); exact Kd.R_mono (Kd.R_far (p := ⟨gb102, 2, none⟩) (Kd.R_far (p := ⟨gb102, 1, none⟩) (Kd.R_far (p := ⟨gb102, 0, none⟩) (Kd.R_types HO_3.out BK102.out (by decide)) (fun _ hk => hk.2) (.int .i64 ((rd_T43 l0 x8_1).f0))) (fun _ hk => hk.2) (.string ((rd_T43 l0 x8_1).f1))) (fun _ hk => hk.2) (.slice A101_2 ((rd_T43 l0 x8_1).f2).length c101_2)) (fun _ hk => trivial)⟩, qB⟩
            · rw [if_neg c5] at H
              have c5b0 : decide (0 ≤ ((rd_T43 l0 x8_1).f0)) = false := decide_eq_false c5
              clear c5
              have H' := Aside0.mk H
              clear H
              have p101 : 0 ≤ (x8_1 : Int) := qa
              have q101 : x8_1 < (l0.length : Int) := qa
              obtain ⟨ad101, A101_2, c101_2, e101, hx101_0, hx101_1, hx101_2, hl101_2, hi101_2⟩ := at_T43 HR0.out x8_1 p101 q101
              cases e101
              replace hx101_0 := qc HB.out hx101_0
              replace hx101_1 := qc HB.out hx101_1
              replace hx101_2 := qc HB.out hx101_2
              have HR101_2 := Aside0.mk hi101_2
              have HC101_2 := Aside0.mk hl101_2
              clear hi101_2 hl101_2
              replace p101 := eq_true p101
              replace q101 := eq_true q101
              go_wp2_with (first | ((with_reducible refine gate_dst (N := 5) rfl ?_); refine box_event ?hg (N := 5) ?hd (cs := #[.int .i64 0, .string (⟨#[]⟩ : ByteArray), .slice none 0 0]) (t := 43) ?hr ?_; (case hd => rfl); (case hg => rfl); (case hr => first | (go_simp; done) | (go_simp; rfl)); intro gb102 hg w16 hbox hb; have n0_ := Aside0.mk (Kd.R_below (by (with_reducible repeat (first | apply Kd.R_alloc | apply Kd.R_drewN | apply Kd.R_drew)); exact HO_3.out) hb); have n1_ := qs hb; have n2_ := Aside0.mk (hbox); have n3_ := Aside0.mk ((by rw [hg]; exact (below_size qb) : w.heap.size ≤ gb102)); have n4_ := Aside0.mk ((by rw [hg]; exact (below_size qb) : w.heap.size ≤ gb102)); clear HO_3; clear HB; have HO_3 := n0_; have HB := n1_; have BK102 := n2_; have GW102 := n3_; have GE102 := n4_; clear n0_ n1_ n2_ n3_ n4_; clear hb hbox hg; obtain ⟨_, _, _, _, _, _⟩ := q3 BK102.out))
              go_roundg k1
              case measure => have := HK1.out; omega
              case rel => exact ⟨(x3_1), (wrap64 (x8_1 + 1)), qv, H', ⟨by have := HK1.out; omega⟩, ⟨by (with_reducible repeat (first | apply Kd.R_alloc | apply Kd.R_drewN | apply Kd.R_drew)); exact Kd.R_mono (Kd.R_far (p := ⟨gb102, 2, none⟩) (Kd.R_far (p := ⟨gb102, 1, none⟩) (Kd.R_far (p := ⟨gb102, 0, none⟩) (Kd.R_types HO_3.out BK102.out (by decide)) (fun _ hk => hk.2) (.int .i64 ((rd_T43 l0 x8_1).f0))) (fun _ hk => hk.2) (.string ((rd_T43 l0 x8_1).f1))) (fun _ hk => hk.2) (.slice A101_2 ((rd_T43 l0 x8_1).f2).length c101_2)) (fun _ hk => trivial)⟩, qB⟩
          · rw [if_neg c4] at H
            exact absurd H (by simp)
        · rw [if_neg c3] at H
          exact absurd H (by simp)
      · rw [if_neg c2] at H
        have c2b0 : decide (x8_1 < (l0.length : Int)) = false := decide_eq_false c2
        clear c2
        obtain rfl := Option.some.inj H
        go_wp2
        go_ret
        exact ⟨_, by first | rfl | (simp [errW_none, errW_some] <;> rfl) | (simp [*, errW_none, errW_some] <;> rfl), by (with_reducible repeat (first | apply Kd.R_alloc | apply Kd.R_drewN | apply Kd.R_drew)); exact HO_3.out, qb⟩
theorem cellHeap {w w' : World} (h : w'.heap = w.heap) (a : Addr) : w'.cell? a = w.cell? a := by unfold World.cell?; rw [h]
set_option maxHeartbeats 8000000 in
set_option maxRecDepth 100000 in
theorem machine_bit (k g : Nat) (w : World) (AN : Option Addr) (cN : Nat) (nm : List ByteArray) (gb nb cB : Nat) (vE vS : Value) (name : ByteArray) (i : Int) (hb : w.heap[g]? = some (.cells #[.slice AN nm.length cN, .slice (some ⟨gb, 0, none⟩) nb cB, vE, vS] 105 (0, 0))) (hr : Kd.C Kd.string w AN nm.length nm) (hc : nm.length ≤ cN) (h : slices_Index_string_string.f k nm name = some i) (h0 : 0 ≤ i) (h1 : i < nb) :
  Calls Tryd.prog 68 #[.pointer (some ⟨g, 0, none⟩), .string name] w fun e w' => e = .returned (.pointer (some ⟨gb, i.toNat, none⟩)) ∧ Drawn0 w w' := by
 have hc0 : w.cell? ⟨g, 0, none⟩ = some (.slice AN nm.length cN) := (blk_cell hb 0).trans rfl
 have hc1 : w.cell? ⟨g, 1, none⟩ = some (.slice (some ⟨gb, 0, none⟩) nb cB) := (blk_cell hb 1).trans rfl
 have HX := Aside0.mk (slices_Index_string_string.calls k AN cN nm name i w.drew hr hc h)
 have d0 : decide (0 ≤ i) = true := decide_eq_true h0
 have d1 : decide (i < (nb : Int)) = true := decide_eq_true h1
 have p0 := eq_true h0
 have p1 := eq_true h1
 clear hb hr hc h h0 h1
 go_enter Tryd.func68, Tryd.ntmps68
 go_wp2
 refine start_ (n := 12) (S := fun w' => w'.heap = w.heap) (ds := []) #[Z,Z,Z,Z,Z,Z,Z,Z,Z,Z,Z,Z] (by kernel_rfl) rfl rfl rfl (fun hHeld => ?_)
 refine pure_ (i := 0) (N := some 5) (v := ?_) (a' := ?_) #[Y,Z,Z,Z,Z,Z,Z,Z,Z,Z,Z,Z] rfl rfl (by kernel_rfl) (fun _ _ _ h => h) (Or.inl ⟨by rfl, ?_⟩) ?_ ?_
 rotate_left
 ·intro w'
  go_simp
  with_reducible rfl
 rotate_left
 ·simp only [Act.put, List.setIfInBounds_toArray, List.set_cons_zero, List.set_cons_succ, i64_w, i32_w]
  rfl
 refine pure_ (i := 1) (N := some 6) (v := ?_) (a' := ?_) #[Y,Y,Z,Z,Z,Z,Z,Z,Z,Z,Z,Z] rfl rfl (by kernel_rfl) (fun _ _ _ h => h) (Or.inl ⟨by rfl, ?_⟩) ?_ ?_
 rotate_left
 ·intro w'
  go_simp
  with_reducible rfl
 rotate_left
 ·simp only [Act.put, List.setIfInBounds_toArray, List.set_cons_zero, List.set_cons_succ, i64_w, i32_w]
  rfl
 refine pure_ (i := 2) (N := some 7) (v := ?_) (a' := ?_) #[Y,Y,Y,Z,Z,Z,Z,Z,Z,Z,Z,Z] rfl rfl (by kernel_rfl) (fun _ _ _ h => h) (Or.inl ⟨by rfl, ?_⟩) ?_ ?_
 rotate_left
 ·intro w'
  go_simp
  with_reducible rfl
 rotate_left
 ·simp only [Act.put, List.setIfInBounds_toArray, List.set_cons_zero, List.set_cons_succ, i64_w, i32_w]
  rfl
 refine pure_ (i := 4) (N := some 9) (v := ?_) (a' := ?_) #[Y,Y,Y,Z,Y,Z,Z,Z,Z,Z,Z,Z] rfl rfl (by kernel_rfl) (fun _ _ _ h => h) (Or.inl ⟨by rfl, ?_⟩) ?_ ?_
 rotate_left
 ·intro w'
  go_simp
  with_reducible rfl
 rotate_left
 ·simp only [Act.put, List.setIfInBounds_toArray, List.set_cons_zero, List.set_cons_succ, i64_w, i32_w]
  rfl
 refine pure_ (i := 5) (N := some 10) (v := ?_) (a' := ?_) #[Y,Y,Y,Z,Y,Y,Z,Z,Z,Z,Z,Z] rfl rfl (by kernel_rfl) (fun _ _ _ h => h) (Or.inl ⟨by rfl, ?_⟩) ?_ ?_
 rotate_left
 ·intro w'
  go_simp
  with_reducible rfl
 rotate_left
 ·simp only [Act.put, List.setIfInBounds_toArray, List.set_cons_zero, List.set_cons_succ, i64_w, i32_w]
  rfl
 refine pure_ (i := 6) (N := some 11) (v := ?_) (a' := ?_) #[Y,Y,Y,Z,Y,Y,Y,Z,Z,Z,Z,Z] rfl rfl (by kernel_rfl) (fun _ _ _ h => h) (Or.inl ⟨by rfl, ?_⟩) ?_ ?_
 rotate_left
 ·intro w'
  go_simp
  with_reducible rfl
 rotate_left
 ·simp only [Act.put, List.setIfInBounds_toArray, List.set_cons_zero, List.set_cons_succ, i64_w, i32_w]
  rfl
 refine pure_ (i := 8) (N := some 13) (v := ?_) (a' := ?_) #[Y,Y,Y,Z,Y,Y,Y,Z,Y,Z,Z,Z] rfl rfl (by kernel_rfl) (fun _ _ _ h => h) (Or.inl ⟨by rfl, ?_⟩) ?_ ?_
 rotate_left
 ·intro w'
  go_simp
  with_reducible rfl
 rotate_left
 ·simp only [Act.put, List.setIfInBounds_toArray, List.set_cons_zero, List.set_cons_succ, i64_w, i32_w]
  rfl
 refine take_ (i := 3) (N := some 8) (v := ?_) (a' := ?_) #[Y,Y,Y,Y,Y,Y,Y,Z,Y,Z,Z,Z] rfl rfl (by kernel_rfl) (fun _ _ _ h => h) (Or.inl ⟨by rfl, ?_⟩) hHeld ?_ ?_
 rotate_left
 ·intro w' s0
  have q0 := (cellHeap s0 _).trans hc1
  go_simp
  with_reducible rfl
 rotate_left
 ·simp only [Act.put, List.setIfInBounds_toArray, List.set_cons_zero, List.set_cons_succ, i64_w, i32_w]
  rfl
 refine take_ (i := 7) (N := some 12) (v := ?_) (a' := ?_) #[Y,Y,Y,Y,Y,Y,Y,Y,Y,Z,Z,Z] rfl rfl (by kernel_rfl) (fun _ _ _ h => h) (Or.inl ⟨by rfl, ?_⟩) hHeld ?_ ?_
 rotate_left
 ·intro w' s0
  have q0 := (cellHeap s0 _).trans hc0
  go_simp
  with_reducible rfl
 rotate_left
 ·simp only [Act.put, List.setIfInBounds_toArray, List.set_cons_zero, List.set_cons_succ, i64_w, i32_w]
  rfl
 refine one_ (i := 9) (N := some 14) #[Y,Y,Y,Y,Y,Y,Y,Y,Y,Y,Z,Z] rfl rfl (by kernel_rfl) (by decide) (fun K hK => ?_)
 refine goes_ Tryd.func93 (by kernel_rfl) rfl #[.slice AN nm.length cN, .string name] (by rfl) rfl rfl (by (try simp only [List.map_toArray, List.map_cons, List.map_nil]); first | done | rfl) ?_
 refine (HX.out).mono ?_
 rintro e w6 ⟨rfl, ⟨n1, rfl⟩⟩
 refine ⟨_, rfl, ?_⟩
 refine hK.out _ _ rfl (fun hHeld => ?_)
 clear hK K
 refine norm_ (a' := ?_) ?_ ?_
 rotate_left
 ·show Act.put _ (some 14) _ = _
  simp only [Act.put, List.setIfInBounds_toArray, List.set_cons_zero, List.set_cons_succ, i64_w, i32_w]
  rfl
 refine pure_ (i := 10) (N := some 15) (v := ?_) (a' := ?_) #[Y,Y,Y,Y,Y,Y,Y,Y,Y,Y,Y,Z] rfl rfl (by kernel_rfl) (fun _ _ _ h => h) (Or.inl ⟨by rfl, ?_⟩) ?_ ?_
 rotate_left
 ·intro w'
  go_simp
  with_reducible rfl
 rotate_left
 ·simp only [Act.put, List.setIfInBounds_toArray, List.set_cons_zero, List.set_cons_succ, i64_w, i32_w]
  rfl
 refine pure_ (i := 11) (N := some 4) (v := ?_) (a' := ?_) #[Y,Y,Y,Y,Y,Y,Y,Y,Y,Y,Y,Y] rfl rfl (by kernel_rfl) (fun _ _ _ h => h) (Or.inl ⟨by rfl, ?_⟩) ?_ ?_
 rotate_left
 ·intro w'
  go_simp
  with_reducible rfl
 rotate_left
 ·simp only [Act.put, List.setIfInBounds_toArray, List.set_cons_zero, List.set_cons_succ, i64_w, i32_w]
  rfl
 refine done_ (by kernel_rfl) ?_
 go_wp2
 go_ret
 exact ⟨rfl, ⟨_, World.drewN_drewN w 1 n1⟩⟩
end Go.Proofs.YtiaccdaeomaogaaDoor.F
