/- Texts of one claim, slimmed and merged by slim.py. -/
import Derived.Sort.OwnSorted
import Derived.Sort.Grow
import Derived.Lib.OwnBridge
import Derived.Lib.LazyBuf
import Derived.Deep.Slices
import Derived.Deep.Grids
import Derived.WalkKit
import Derived.ProofKit
import Derived.OpenShut
import Derived.ShutString
import Derived.ChangeOld
import Derived.Below
import Derived.SizedLaws
import Derived.Test.YtiaccdaeomaogaaDoorA4
import Derived.Test.YtiaccdaeomaogaaDoorA6
import Derived.Test.YtiaccdaeomaogaaDoorA9
import Derived.Test.YtiaccdaeomaogaaDoorA11
namespace Go.Proofs.YtiaccdaeomaogaaDoor.F
open Go.RowKit Go.Proofs.YtiaccdaeomaogaaDoorW.PrintWords Go.Proofs.YtiaccdaeomaogaaDoorW.PrintLast Go.Proofs.YtiaccdaeomaogaaDoorW.PrintMore
attribute [local go_sem] max2_int min2_int max_two min_two max_three min_three max_four min_four   -- for this text's walks alone
set_option linter.unusedVariables false
set_option linter.unusedSimpArgs false
mutual
def namesF : Nat → Int → ByteArray → List S34 → List ByteArray → Option (List ByteArray)
  | 0, _, _, _, _ => none
  | k + 1, op, nm, ks, acc => if op = 1 then (if acc.length < 8796093022208 then some (acc ++ [nm]) else none) else namesL k ks acc
def namesL : Nat → List S34 → List ByteArray → Option (List ByteArray)
  | 0, _, _ => none
  | k + 1, ks, acc => match ks with
    | [] => some acc
    | x :: xs => (namesF k x.f0 x.f2 x.f3 acc).bind fun a => namesL k xs a
end
theorem names_mono : ∀ k, (∀ op nm ks acc, LeO (namesF k op nm ks acc) (namesF (k + 1) op nm ks acc)) ∧ (∀ ks acc, LeO (namesL k ks acc) (namesL (k + 1) ks acc))
  | 0 => ⟨fun _ _ _ _ r h => by simp [namesF] at h, fun _ _ r h => by simp [namesL] at h⟩
  | k + 1 => by
    obtain ⟨h1, h2⟩ := names_mono k
    refine ⟨fun op nm ks acc => ?_, fun ks acc => ?_⟩
    · rw [namesF, namesF]
      split
      · exact LeO.refl _
      exact h2 _ _
    cases ks with
    | nil => rw [namesL, namesL]; exact LeO.refl _
    | cons x xs => rw [namesL, namesL]; exact LeO.bind (h1 _ _ _ _) (fun _ => h2 _ _)
theorem drop_T34 {l : List S34} {i : Int} (h0 : 0 ≤ i) (h1 : i < l.length) : l.drop i.toNat = rd_T34 l i :: l.drop (i + 1).toNat := by
  have h : i.toNat < l.length := by omega
  rw [show (i + 1).toNat = i.toNat + 1 from by omega, List.drop_eq_getElem_cons h]
  unfold rd_T34; rw [List.getD, List.getElem?_eq_getElem h]; rfl
set_option maxHeartbeats 8000000 in
set_option maxRecDepth 100000 in
theorem names_calls (k : Nat) : ∀ (op n : Int) (nm : ByteArray) (A : Option Addr) (c : Nat) (ks : List S34) (v : Value) (l r : List ByteArray) (W w : World) (hr : Kd.C k34 W A ks.length ks) (hc : ks.length ≤ c) (hB : Below W.heap.size W w) (ho : Kd.R Kd.string 9 w W.heap.size (fun _ => True) v l) (h : namesF k op nm ks l = some r),
  Calls Tryd.prog 138 #[.agg #[.int .i64 op, .int .i64 n, .string nm, .slice A ks.length c], v] w fun e w' => ∃ v', e = .returned v' ∧ Kd.R Kd.string 9 w' W.heap.size (fun _ => True) v' r ∧ Below W.heap.size W w' := by
 induction k using Nat.strongRecOn with
 | _ k ih =>
 intro op n nm A c ks v l r W w hr hc hB ho h
 cases k with
 | zero => simp [namesF] at h
 | succ k =>
 rw [namesF] at h
 have hu34 := Tryd.underlying34
 have HB1 := Aside0.mk hB
 have HO1 := Aside0.mk ho
 have HR := Aside0.mk hr
 have HC := Aside0.mk hc
 clear hr hc hB ho
 by_cases h1 : op = 1
 ·subst h1
  rw [if_pos rfl] at h
  by_cases hl : l.length < 8796093022208
  ·rw [if_pos hl] at h
   obtain rfl := Option.some.inj h
   have HL := Aside0.mk hl
   obtain ⟨Ao, co, eo⟩ := Kd.R_slice HO1.out
   subst eo
   clear h hl
   go_enter Tryd.func138, Tryd.ntmps138
   go_wp2_with (first | ((with_reducible refine gate_dst (N := 2) rfl ?_); refine box_event ?hg (N := 2) ?hd (cs := #[.int .i64 1, .int .i64 n, .string nm, .slice A ks.length c]) (t := 34) ?hr ?_; (case hd => rfl); (case hg => rfl); (case hr => first | (go_simp; done) | (go_simp; rfl)); intro gb hg w4 hbox hb; have HB4 := Aside0.mk (below_step HB1.out hb); have HO4 := Aside0.mk (Kd.R_below HO1.out hb); clear hb hg; have hcz2 : w4.cell? ⟨gb, 2, none⟩ = some (.string nm) := (blk_cell hbox 2).trans rfl; have hcz0 : w4.cell? ⟨gb, 0, none⟩ = some (.int .i64 1) := (blk_cell hbox 0).trans rfl; clear hbox) | ((with_reducible refine gate_builtin (b := .append) (xs := #[.tmp 10, .tmp 13]) rfl ?_); at_builtin; refine Kd.R_append Kd.string (w0 := W) W.heap.size rfl (.tmp 10) (.tmp 13) 23 9 (.string ⟨#[]⟩) 16 rfl Tryd.underlying23 info9 rfl (by decide) (by omega) (.slice Ao l.length co) l nm [.string nm] (fun _ => True) (fun _ => False) rfl rfl ?aP (fun _ hk => hk.elim) ?aF ?aO ?aB ?aS ?aL ?_; (case aP => exact rfl); (case aB => exact HB4.out); (case aF => exact (fun _ _ => trivial)); (case aO => exact HO4.out); (case aS => exact HB4.out.size); (case aL => have := HL.out; omega); intro v2 w2 ho hb hg hat; have HO2 := Aside0.mk ho; have HB2 := Aside0.mk hb; clear ho hb hg hat))
   go_ret
   exact ⟨_, rfl, HO2.out, HB2.out⟩
  rw [if_neg hl] at h
  cases h
 rw [if_neg h1] at h
 have d1 : (op == 1) = false := beq_eq_false_iff_ne.mpr h1
 have HN := Aside0.mk h
 clear h h1
 go_enter Tryd.func138, Tryd.ntmps138
 go_wp2
 go_loopg [1, 18] ks.length (fun kq v1 v18 w' => ∃ (u : Value) (x : Int) (lc : List ByteArray) (kk : Nat), v1 = u ∧ v18 = .int .i64 x ∧ Aside0 (0 ≤ x ∧ x ≤ (ks.length : Int) ∧ (kq : Int) = ks.length - x) ∧ Aside0 (Kd.R Kd.string 9 w' W.heap.size (fun _ => True) u lc) ∧ Aside0 (Below W.heap.size W w') ∧ Aside0 (kk ≤ k ∧ namesL kk (ks.drop x.toNat) lc = some r))
 case atStart => exact ⟨v, 0, l, k, rfl, rfl, ⟨by omega, by omega, by omega⟩, ⟨by (with_reducible repeat (first | apply Kd.R_alloc | apply Kd.R_drewN | apply Kd.R_drew)); exact HO1.out⟩, ⟨by repeat (first | exact HB1.out | apply below_alloc | apply pw_below_drewN | apply below_drew1)⟩, ⟨Nat.le_refl _, by simpa using HN.out⟩⟩
 case round =>
  clear HN HO1 HB1
  obtain ⟨u, x, lc, kk, rfl, rfl, HK, HO, HB, HN⟩ := hrel
  by_cases hlt : x < (ks.length : Int)
  ·have p1 := HK.out.1
   have q1 := hlt
   obtain ⟨ad, A3, c3, e1, y0, y1, y2, y3, l3, g3⟩ := at_T34 HR.out x p1 q1
   cases e1
   have hx0 := pw_cell_below HB.out y0
   have hx1 := pw_cell_below HB.out y1
   have hx2 := pw_cell_below HB.out y2
   have hx3 := pw_cell_below HB.out y3
   obtain ⟨hk1, hn1⟩ := HN.out
   rw [drop_T34 p1 q1] at hn1
   generalize rd_T34 ks x = y at *
   cases kk with
   | zero => simp [namesL] at hn1
   | succ kk =>
   rw [namesL] at hn1
   obtain ⟨a, ha, hn1⟩ := Option.bind_eq_some_iff.mp hn1
   have HA := Aside0.mk ha
   have HN1 : Aside0 (kk ≤ k ∧ namesL kk (ks.drop (x + 1).toNat) a = some r) := ⟨by omega, hn1⟩
   have HKK : Aside0 (0 ≤ x ∧ x < (ks.length : Int) ∧ (gk : Int) = ks.length - x ∧ kk < k + 1) := ⟨by have := HK.out; omega⟩
   have HG3 := Aside0.mk g3
   have HL3 := Aside0.mk l3
   have c0 : decide (x < (ks.length : Int)) = true := decide_eq_true hlt
   have c1 : decide (0 ≤ x) = true := decide_eq_true p1
   replace p1 := eq_true p1
   replace q1 := eq_true q1
   clear hlt HK HN hk1 hn1 ha y0 y1 y2 y3 l3 g3
   go_wp2_with (first | (go_at_call 138; refine (ih kk (by have := HKK.out; omega) y.f0 y.f1 y.f2 A3 c3 y.f3 _ lc a W _ HG3.out HL3.out ?hb ?ho HA.out).mono ?_; (case hb => repeat (first | exact HB.out | apply below_alloc)); (case ho => (with_reducible repeat (first | apply Kd.R_alloc | apply Kd.R_drewN | apply Kd.R_drew)); exact HO.out); rintro e w5 ⟨v5, rfl, ho, hb⟩; have HO5 := Aside0.mk ho; have HB5 := Aside0.mk hb; clear ho hb))
   go_roundg (gk - 1)
   case measure => have := HKK.out; omega
   case rel => exact ⟨v5, wrap64 (x + 1), a, kk, rfl, rfl, ⟨by have := HKK.out; have := HC.out; have := HR.out.2.1; unfold wrap64; omega⟩, HO5, HB5, ⟨HN1.out.1, by rw [show wrap64 (x + 1) = x + 1 from by have := HKK.out; have := HR.out.2.1; unfold wrap64; omega]; exact HN1.out.2⟩⟩
  have he : x = ks.length := by have := HK.out; omega
  subst he
  have c0 : decide ((ks.length : Int) < (ks.length : Int)) = false := decide_eq_false (by omega)
  have hn := HN.out.2
  rw [List.drop_eq_nil_of_le (by omega)] at hn
  have hlr : lc = r := by
   cases kk with
   | zero => simp [namesL] at hn
   | succ kk => rw [namesL] at hn; simpa using hn
  subst hlr
  clear HK hlt hn HN
  go_wp2
  go_ret
  exact ⟨_, rfl, HO.out, HB.out⟩
def srtL (l : List ByteArray) : List (List UInt8) := (l.map (·.data.toList)).mergeSort fun x y => decide (x ≤ y)
def cmpL (l : List ByteArray) : List (List UInt8) := Lib.compact (srtL l)
def ofL (l : List (List UInt8)) : List ByteArray := l.map fun b => ⟨b.toArray⟩
def namesOut (l : List ByteArray) : List ByteArray := ofL (cmpL l)
theorem encs_ofL (l : List (List UInt8)) : encs Value.string (ofL l) = l.map encStr := by
  unfold encs ofL
  rw [List.map_map]
  apply List.map_congr_left
  intro x _
  simp [Proofs.encStr]
theorem namesOut_len (l : List ByteArray) : (namesOut l).length = (cmpL l).length := by simp [namesOut, ofL]
theorem namesOut_nil : namesOut [] = [] := by simp [namesOut, ofL, cmpL, srtL, Lib.compact]; rfl
def expr_Names.f (k : Nat) (a0_0 : Int) (a0_1 : Int) (a0_2 : ByteArray) (l0_3 : List (S34)) : Option (List ByteArray) := (expr_May.f k a0_0 a0_1 a0_2 l0_3).bind fun t => if t = true then ((namesF k a0_0 a0_2 l0_3 []).bind fun l => if l.length < 8796093022208 then some (namesOut l) else none) else some []
theorem expr_Names.mono : ∀ a0 a1 a2 a3 k, LeO (expr_Names.f k a0 a1 a2 a3) (expr_Names.f (k + 1) a0 a1 a2 a3) := by
  intro a0 a1 a2 a3 k
  unfold expr_Names.f
  exact LeO.bind (expr_May.mono _ _ _ _ _) (fun t => LeO.ite (LeO.bind ((names_mono k).1 _ _ _ _) (fun l => LeO.refl _)) (LeO.refl _))
theorem sorted_own {w w1 : World} {g cap nn q : Nat} {os : Array Obj} {l : List ByteArray} (hown : w1.ownsRow w.heap.size 9 1 (.slice (some ⟨g, 0, none⟩) l.length cap) l.length ((l.map (·.data.toList)).map encStr)) (hbel : Below w.heap.size w w1) (hbg : w.heap.size ≤ g) :
  Kd.R Kd.string 9 (Sort.putRow encStr (Sort.ahead (Sort.grow (Sort.putRow encStr (Sort.ahead w1 nn) g 0 (srtL l).toArray) os) q) g 0 (cmpL l ++ List.replicate (l.length - (cmpL l).length) []).toArray) w.heap.size (fun _ => True) (.slice (some ⟨g, 0, none⟩) (cmpL l).length cap) (namesOut l) ∧
  Below w.heap.size w (Sort.putRow encStr (Sort.ahead (Sort.grow (Sort.putRow encStr (Sort.ahead w1 nn) g 0 (srtL l).toArray) os) q) g 0 (cmpL l ++ List.replicate (l.length - (cmpL l).length) []).toArray) := by
 have hl2 : (srtL l).length = l.length := by unfold srtL; rw [List.length_mergeSort, List.length_map]
 have hle : (cmpL l).length ≤ (srtL l).length := Lib.compact_length_le (srtL l)
 rcases hown.2 with ⟨h0, _⟩ | ⟨g', cap', cur, hv, hbase, hb, h1, h2, h3, h4⟩
 ·cases h0
 cases hv
 have hs := ownsRow_sorted (n := nn) (os := os) (ss := srtL l) (ts := srtL l) rfl hbase hb (by rw [hl2]; exact h1) h2 h3
 have hc := Lib.ownsRow_putRow (q := q) (k := (cmpL l).length) (ys := cmpL l ++ List.replicate ((srtL l).length - (cmpL l).length) []) hs (by simp; omega) (by omega)
 rw [List.take_left, hl2] at hc
 refine ⟨Kd.R_of_own ?_ (fun _ _ => trivial), Lib.below_putRow (hbel.grown (grownBy_sorted _) hbel.size (fun j hj => by cases hj; exact hbase)) hbg⟩
 rw [namesOut_len]
 unfold namesOut
 rw [encs_ofL]
 exact hc
set_option maxHeartbeats 8000000 in
set_option maxRecDepth 100000 in
theorem expr_Names.calls (k : Nat) (a0_0 : Int) (a0_1 : Int) (a0_2 : ByteArray) (A0_3 : Option Addr) (c0_3 : Nat) (l0_3 : List (S34)) (r : List ByteArray) (w : World) (hr0_3 : Kd.C k34 w A0_3 l0_3.length l0_3) (hc0_3 : l0_3.length ≤ c0_3) (h : expr_Names.f k a0_0 a0_1 a0_2 l0_3 = some r) (hT : UT w) :
    Calls Tryd.prog 106 #[.agg #[.int .i64 a0_0, .int .i64 a0_1, .string a0_2, .slice A0_3 l0_3.length c0_3]] w fun e w' => ∃ v0_ : Value, e = .returned (v0_) ∧ Kd.R Kd.string 9 w' w.heap.size (fun _ => True) v0_ r ∧ Below w.heap.size w w' := by
  have HT := Aside0.mk hT
  have HR := Aside0.mk hr0_3
  have HC := Aside0.mk hc0_3
  have hu34 := Tryd.underlying34
  unfold expr_Names.f at h
  obtain ⟨t, ht, h⟩ := Option.bind_eq_some_iff.mp h
  have HM := Aside0.mk ht
  clear hT hr0_3 hc0_3 ht
  cases t with
  | false =>
    rw [if_neg (by decide)] at h
    obtain rfl := Option.some.inj h
    clear h
    go_enter Tryd.func106, Tryd.ntmps106
    go_wp2_with (first | ((with_reducible refine gate_dst (N := 1) rfl ?_); refine box_event ?hg (N := 1) ?hd (cs := #[.int .i64 a0_0, .int .i64 a0_1, .string a0_2, .slice A0_3 l0_3.length c0_3]) (t := 34) ?hr ?_; (case hd => rfl); (case hg => rfl); (case hr => first | (go_simp; done) | (go_simp; rfl)); intro gb hg w4 hbox hb; have HB4 := Aside0.mk hb; clear hb hg; have hcz0 : w4.cell? ⟨gb, 0, none⟩ = some (.int .i64 a0_0) := (blk_cell hbox 0).trans rfl; have hcz1 : w4.cell? ⟨gb, 1, none⟩ = some (.int .i64 a0_1) := (blk_cell hbox 1).trans rfl; have hcz2 : w4.cell? ⟨gb, 2, none⟩ = some (.string a0_2) := (blk_cell hbox 2).trans rfl; have hcz3 : w4.cell? ⟨gb, 3, none⟩ = some (.slice A0_3 l0_3.length c0_3) := (blk_cell hbox 3).trans rfl; clear hbox) | (go_at_call 29; refine (expr_May.calls k a0_0 a0_1 a0_2 A0_3 c0_3 l0_3 false _ (Kd.C_below HR.out HB4.out) HC.out HM.out (UT.below HT.out HB4.out)).mono ?_; rintro e w5 ⟨rfl, hb⟩; have HB5 := Aside0.mk (below_step HB4.out hb); clear hb))
    go_ret
    exact ⟨_, rfl, Kd.R_nil _ _ _ _ _, HB5.out⟩
  | true =>
    rw [if_pos rfl] at h
    obtain ⟨l, hl, h⟩ := Option.bind_eq_some_iff.mp h
    by_cases hn : l.length < 8796093022208
    case neg => rw [if_neg hn] at h; cases h
    rw [if_pos hn] at h
    obtain rfl := Option.some.inj h
    have HN := Aside0.mk hl
    have HL := Aside0.mk hn
    clear h hl hn
    by_cases hz : l = []
    · subst hz
      rw [namesOut_nil]
      go_enter Tryd.func106, Tryd.ntmps106
      go_wp2_with (first | ((with_reducible refine gate_dst (N := 1) rfl ?_); refine box_event ?hg (N := 1) ?hd (cs := #[.int .i64 a0_0, .int .i64 a0_1, .string a0_2, .slice A0_3 l0_3.length c0_3]) (t := 34) ?hr ?_; (case hd => rfl); (case hg => rfl); (case hr => first | (go_simp; done) | (go_simp; rfl)); intro gb hg w4 hbox hb; have HB4 := Aside0.mk hb; have HK4 := Aside0.mk hbox; clear hb hg; have hcz0 : w4.cell? ⟨gb, 0, none⟩ = some (.int .i64 a0_0) := (blk_cell hbox 0).trans rfl; have hcz1 : w4.cell? ⟨gb, 1, none⟩ = some (.int .i64 a0_1) := (blk_cell hbox 1).trans rfl; have hcz2 : w4.cell? ⟨gb, 2, none⟩ = some (.string a0_2) := (blk_cell hbox 2).trans rfl; have hcz3 : w4.cell? ⟨gb, 3, none⟩ = some (.slice A0_3 l0_3.length c0_3) := (blk_cell hbox 3).trans rfl; clear hbox) | (go_at_call 29; refine (expr_May.calls k a0_0 a0_1 a0_2 A0_3 c0_3 l0_3 true _ (Kd.C_below HR.out HB4.out) HC.out HM.out (UT.below HT.out HB4.out)).mono ?_; rintro e w5 ⟨rfl, hb⟩; have HB5 := Aside0.mk (below_step HB4.out hb); have hbox := blk_below HK4.out hb; have hcy0 : w5.cell? ⟨gb, 0, none⟩ = some (.int .i64 a0_0) := (blk_cell hbox 0).trans rfl; have hcy1 : w5.cell? ⟨gb, 1, none⟩ = some (.int .i64 a0_1) := (blk_cell hbox 1).trans rfl; have hcy2 : w5.cell? ⟨gb, 2, none⟩ = some (.string a0_2) := (blk_cell hbox 2).trans rfl; have hcy3 : w5.cell? ⟨gb, 3, none⟩ = some (.slice A0_3 l0_3.length c0_3) := (blk_cell hbox 3).trans rfl; clear hb hbox) | (go_at_call 138; refine (names_calls k a0_0 a0_1 a0_2 A0_3 c0_3 l0_3 (.slice none 0 0) [] [] w _ HR.out HC.out HB5.out (Kd.R_nil _ _ _ _ _) HN.out).mono ?_; rintro e w6 ⟨v6, rfl, ho, hb⟩; obtain ⟨A6, c6, e6⟩ := Kd.R_slice ho; subst e6; have HB6 := Aside0.mk hb; have HO6 := Aside0.mk ho; clear ho hb) | (go_at_call 139; refine (Tryd.slices_Sort_string_none _ _ _).mono ?_; rintro e w7 ⟨rfl, rfl⟩) | (go_at_call 140; refine (Tryd.slices_Compact_string_empty _ _ _).mono ?_; rintro e w8 ⟨rfl, rfl⟩))
      go_ret
      exact ⟨_, rfl, HO6.out, HB6.out⟩
    have HZ := Aside0.mk hz
    clear hz
    obtain ⟨ll, hll⟩ : ∃ ll, ll = l.length := ⟨_, rfl⟩
    have HLL := Aside0.mk hll
    have hl2 : (srtL l).length = l.length := by unfold srtL; rw [List.length_mergeSort, List.length_map]
    have HL2 := Aside0.mk hl2
    clear hll hl2
    go_enter Tryd.func106, Tryd.ntmps106
    go_wp2_with (first | ((with_reducible refine gate_dst (N := 1) rfl ?_); refine box_event ?hg (N := 1) ?hd (cs := #[.int .i64 a0_0, .int .i64 a0_1, .string a0_2, .slice A0_3 l0_3.length c0_3]) (t := 34) ?hr ?_; (case hd => rfl); (case hg => rfl); (case hr => first | (go_simp; done) | (go_simp; rfl)); intro gb hg w4 hbox hb; have HB4 := Aside0.mk hb; have HK4 := Aside0.mk hbox; clear hb hg; have hcz0 : w4.cell? ⟨gb, 0, none⟩ = some (.int .i64 a0_0) := (blk_cell hbox 0).trans rfl; have hcz1 : w4.cell? ⟨gb, 1, none⟩ = some (.int .i64 a0_1) := (blk_cell hbox 1).trans rfl; have hcz2 : w4.cell? ⟨gb, 2, none⟩ = some (.string a0_2) := (blk_cell hbox 2).trans rfl; have hcz3 : w4.cell? ⟨gb, 3, none⟩ = some (.slice A0_3 l0_3.length c0_3) := (blk_cell hbox 3).trans rfl; clear hbox) | (go_at_call 29; refine (expr_May.calls k a0_0 a0_1 a0_2 A0_3 c0_3 l0_3 true _ (Kd.C_below HR.out HB4.out) HC.out HM.out (UT.below HT.out HB4.out)).mono ?_; rintro e w5 ⟨rfl, hb⟩; have HB5 := Aside0.mk (below_step HB4.out hb); have hbox := blk_below HK4.out hb; have hcy0 : w5.cell? ⟨gb, 0, none⟩ = some (.int .i64 a0_0) := (blk_cell hbox 0).trans rfl; have hcy1 : w5.cell? ⟨gb, 1, none⟩ = some (.int .i64 a0_1) := (blk_cell hbox 1).trans rfl; have hcy2 : w5.cell? ⟨gb, 2, none⟩ = some (.string a0_2) := (blk_cell hbox 2).trans rfl; have hcy3 : w5.cell? ⟨gb, 3, none⟩ = some (.slice A0_3 l0_3.length c0_3) := (blk_cell hbox 3).trans rfl; clear hb hbox) | (go_at_call 138; refine (names_calls k a0_0 a0_1 a0_2 A0_3 c0_3 l0_3 (.slice none 0 0) [] l w _ HR.out HC.out HB5.out (Kd.R_nil _ _ _ _ _) HN.out).mono ?_; rintro e w6 ⟨v6, rfl, ho, hb⟩; have hown := Kd.own_of_R ho; have hne : v6 ≠ .slice none 0 0 := (fun e0 => HZ.out (by obtain ⟨A9, c9, e9⟩ := Kd.R_slice ho; rw [e0] at e9; injection e9 with _ e9 _; exact List.eq_nil_of_length_eq_zero e9.symm)); have hown2 : w6.ownsRow w.heap.size 9 1 v6 l.length ((l.map (·.data.toList)).map encStr) := (by rw [Lib.map_encStr]; exact hown); obtain ⟨g, cap, e6, hbg, hgl, hncap, hcm, hlen, hH⟩ := Lib.holds_of_ownsRow hown2 hne; subst e6; have HB6 := Aside0.mk hb; have HO6 := Aside0.mk hown2; have HG6 := Aside0.mk hbg; have HNC := Aside0.mk hncap; have hsort := Tryd.slices_Sort_string g 0 cap (l.map (·.data.toList)) w6 hH hgl (by rw [List.length_map]; have := HL.out; omega); rw [List.length_map] at hsort; have HS6 := Aside0.mk hsort; have HH6 := Aside0.mk hH; have HGL := Aside0.mk hgl; clear ho hb hown hown2 hne hH hsort hbg hgl hncap hcm hlen) | (go_at_call 139; refine HS6.out.mono ?_; rintro e w7 ⟨rfl, nn, os, rfl⟩; have hH2 : Sort.Holds encStr (Sort.grow (Sort.putRow encStr (Sort.ahead w6 nn) g 0 (srtL l).toArray) os) g 0 (srtL l).toArray := Sort.holds_grow encStr _ os g 0 _ (by simpa [Sort.putRow, Sort.mapBlock, Sort.ahead] using HGL.out) (Sort.holds_putRow encStr _ g 0 _ _ (Sort.holds_ahead encStr w6 nn g 0 _ HH6.out) (by simp [srtL])); have hcomp := Tryd.slices_Compact_string g 0 cap (srtL l) _ hH2 (by have := HL2.out; have := HL.out; omega) (by have := HL2.out; have := HNC.out; omega); rw [HL2.out] at hcomp; have HCo := Aside0.mk hcomp; clear hH2 hcomp) | (go_at_call 140; refine HCo.out.mono ?_; rintro e w8 ⟨rfl, q, rfl⟩))
    go_ret
    exact ⟨_, rfl, (sorted_own HO6.out HB6.out HG6.out).1, (sorted_own HO6.out HB6.out HG6.out).2⟩
def slices_Index_string_string.l0 : Nat → List ByteArray → ByteArray → Int → Int → Option (Int)
  | 0, _, _, _, _ => none
  | k + 1, x0, x1, x7, x8 => if x8 < x7 then (if 0 ≤ x8 then (if x8 < (x0.length : Int) then (if x1.toList = (rdOf ByteArray.empty x0 x8).toList then (some x8) else (slices_Index_string_string.l0 k x0 x1 x7 (wrap64 (x8 + 1)))) else (none)) else (none)) else (some (-1))
def slices_Index_string_string.f (k : Nat) (l0 : List ByteArray) (a1 : ByteArray) : Option (Int) := slices_Index_string_string.l0 k l0 a1 (l0.length : Int) 0
theorem slices_Index_string_string.mono_l : ∀ k, (∀ y0 y1 y2 y3, LeO (slices_Index_string_string.l0 k y0 y1 y2 y3) (slices_Index_string_string.l0 (k + 1) y0 y1 y2 y3))
  | 0 => fun _ _ _ _ r h => by simp [slices_Index_string_string.l0] at h
  | k + 1 => by
    have ih0 := slices_Index_string_string.mono_l k
    intro y0 y1 y2 y3
    unfold slices_Index_string_string.l0
    repeat' first
    | (with_reducible exact ih0 _ _ _ _)
    | (with_reducible exact LeO.refl _)
    | (with_reducible exact LeO.none _)
    | (with_reducible refine LeO.ite ?_ ?_)
    | (with_reducible refine LeO.bind ?_ (fun _ => ?_))
    | exact ih0 _ _ _ _
    | exact LeO.none _
    | refine LeO.ite ?_ ?_
    | refine LeO.bind ?_ (fun _ => ?_)
theorem slices_Index_string_string.mono : ∀ a0 a1 k, LeO (slices_Index_string_string.f k a0 a1) (slices_Index_string_string.f (k + 1) a0 a1) := by
  intro a0 a1 k
  have ih0 := slices_Index_string_string.mono_l k
  unfold slices_Index_string_string.f
  repeat' first
      | (with_reducible exact ih0 _ _ _ _)
      | (with_reducible exact LeO.refl _)
      | (with_reducible exact LeO.none _)
      | (with_reducible refine LeO.ite ?_ ?_)
      | (with_reducible refine LeO.bind ?_ (fun _ => ?_))
      | exact ih0 _ _ _ _
      | exact LeO.none _
      | refine LeO.ite ?_ ?_
      | refine LeO.bind ?_ (fun _ => ?_)
set_option maxHeartbeats 8000000 in
set_option maxRecDepth 100000 in
theorem slices_Index_string_string.calls (k : Nat) (A0 : Option Addr) (c0 : Nat) (l0 : List ByteArray) (a1 : ByteArray) (r : Int) (w : World) (hr0 : Kd.C Kd.string w A0 l0.length l0) (hc0 : l0.length ≤ c0) (h : slices_Index_string_string.f k l0 a1 = some r) :
    Calls Tryd.prog 93 #[.slice A0 l0.length c0, .string a1] w fun e w' => e = .returned (.int .i64 r) ∧ Drawn0 w w' := by
  have HR0 := Aside0.mk hr0
  have HC0 := Aside0.mk hc0
  clear hr0 hc0
  have H : (slices_Index_string_string.l0 k l0 a1 (l0.length : Int) 0) = some r := h
  clear h
  have H' := Aside0.mk H
  clear H
  go_enter Tryd.func93, Tryd.ntmps93
  go_wp2
  go_loopg [8] k (fun kq v8 w' => ∃ (x8_1 : Int), v8 = .int .i64 x8_1 ∧ Aside0 (slices_Index_string_string.l0 kq l0 a1 (l0.length : Int) x8_1 = some r) ∧ Aside0 (kq ≤ k) ∧ Drawn0 w w')
  case atStart => exact ⟨(0), qv, H', ⟨Nat.le_refl _⟩, by repeat (first | exact Drawn0.refl _ | apply Drawn0.step)⟩
  case round =>
    clear H'
    obtain ⟨x8_1, rfl, HA, HK1, ⟨m1, rfl⟩⟩ := hrel
    cases gk with
    | zero => exact absurd HA.out (by simp [slices_Index_string_string.l0])
    | succ k1 =>
      have H := HA.out
      clear HA
      simp only [slices_Index_string_string.l0] at H
      by_cases c3 : x8_1 < (l0.length : Int)
      · rw [if_pos c3] at H
        have c3b0 : decide (x8_1 < (l0.length : Int)) = true := decide_eq_true c3
        clear c3
        by_cases c4 : 0 ≤ x8_1
        · rw [if_pos c4] at H
          have c4b0 : decide (0 ≤ x8_1) = true := decide_eq_true c4
          clear c4
          by_cases c5 : x8_1 < (l0.length : Int)
          · rw [if_pos c5] at H
            have c5b0 : decide (x8_1 < (l0.length : Int)) = true := decide_eq_true c5
            clear c5
            by_cases c6 : a1.toList = (rdOf ByteArray.empty l0 x8_1).toList
            · rw [if_pos c6] at H
              obtain ⟨c6b0, c6b1⟩ := qe c6
              clear c6
              obtain rfl := Option.some.inj H
              have p101 : 0 ≤ (x8_1 : Int) := qa
              have q101 : x8_1 < (l0.length : Int) := qa
              obtain ⟨ad101, e101, hx101_0⟩ := Kd.at_string HR0.out x8_1 p101 q101
              cases e101
              replace p101 := eq_true p101
              replace q101 := eq_true q101
              go_wp2
              go_ret
              exact ⟨by first | rfl | (simp; done) | (simp [*]; done), by repeat (first | exact Drawn0.refl _ | apply Drawn0.step)⟩
            rw [if_neg c6] at H
            obtain ⟨c6b0, c6b1⟩ := qd c6
            have H' := Aside0.mk H
            clear H
            have p101 : 0 ≤ (x8_1 : Int) := qa
            have q101 : x8_1 < (l0.length : Int) := qa
            obtain ⟨ad101, e101, hx101_0⟩ := Kd.at_string HR0.out x8_1 p101 q101
            cases e101
            replace p101 := eq_true p101
            replace q101 := eq_true q101
            go_wp2
            go_roundg k1
            case measure => have := HK1.out; omega
            case rel => exact ⟨(wrap64 (x8_1 + 1)), qv, H', ⟨by have := HK1.out; omega⟩, by repeat (first | exact Drawn0.refl _ | apply Drawn0.step)⟩
          rw [if_neg c5] at H
          exact absurd H (by simp)
        rw [if_neg c4] at H
        exact absurd H (by simp)
      rw [if_neg c3] at H
      have c3b0 : decide (x8_1 < (l0.length : Int)) = false := decide_eq_false c3
      clear c3
      obtain rfl := Option.some.inj H
      go_wp2
      go_ret
      exact ⟨by first | rfl | (simp; done) | (simp [*]; done), by repeat (first | exact Drawn0.refl _ | apply Drawn0.step)⟩
def slices_Contains_string_string.f (k : Nat) (l0 : List ByteArray) (a1 : ByteArray) : Option (Bool) := (slices_Index_string_string.f k l0 a1).bind fun t101 => (some (decide (t101 ≥ 0)))
theorem slices_Contains_string_string.mono : ∀ a0 a1 k, LeO (slices_Contains_string_string.f k a0 a1) (slices_Contains_string_string.f (k + 1) a0 a1) := by
  intro a0 a1 k
  unfold slices_Contains_string_string.f
  repeat' first
      | (with_reducible exact slices_Index_string_string.mono _ _ _)
      | (with_reducible exact LeO.refl _)
      | (with_reducible exact LeO.none _)
      | (with_reducible refine LeO.ite ?_ ?_)
      | (with_reducible refine LeO.bind ?_ (fun _ => ?_))
      | exact slices_Index_string_string.mono _ _ _
      | exact LeO.none _
      | refine LeO.ite ?_ ?_
      | refine LeO.bind ?_ (fun _ => ?_)
set_option maxHeartbeats 8000000 in
set_option maxRecDepth 100000 in
theorem slices_Contains_string_string.calls (k : Nat) (A0 : Option Addr) (c0 : Nat) (l0 : List ByteArray) (a1 : ByteArray) (r : Bool) (w : World) (hr0 : Kd.C Kd.string w A0 l0.length l0) (hc0 : l0.length ≤ c0) (h : slices_Contains_string_string.f k l0 a1 = some r) :
    Calls Tryd.prog 61 #[.slice A0 l0.length c0, .string a1] w fun e w' => e = .returned (.bool r) ∧ Drawn0 w w' := by
  have HR0 := Aside0.mk hr0
  have HC0 := Aside0.mk hc0
  clear hr0 hc0
  have H : ((slices_Index_string_string.f k l0 a1).bind fun t101 => (some (decide (t101 ≥ 0)))) = some r := h
  clear h
  replace H := qi H
  obtain ⟨t101, A3, H⟩ := H
  obtain rfl := Option.some.inj H
  go_enter Tryd.func61, Tryd.ntmps61
  go_wp2_with (first | ((with_reducible refine gate_callee (f := 93) rfl ?_); refine goesL_ (some 7) rfl rfl Tryd.func93 (by kernel_rfl) rfl #[.slice A0 l0.length c0, .string a1] rfl qm ?_; (with_reducible refine (slices_Index_string_string.calls k _ _ l0 a1 t101 _ ?side1 ?side2 A3.out).mono ?_); (case side1 => repeat (first | exact HR0.out | (with_reducible refine Kd.C_alloc ?_ _) | (with_reducible refine Kd.C_drewN ?_ _) | (with_reducible refine Kd.C_drew ?_))); (case side2 => exact HC0.out); rintro e w' ⟨rfl, ⟨nd, rfl⟩⟩; refine ⟨_, rfl, ?_⟩))
  go_ret
  exact ⟨by first | rfl | (simp; done) | (simp [*]; done), by repeat (first | exact Drawn0.refl _ | apply Drawn0.step)⟩
end Go.Proofs.YtiaccdaeomaogaaDoor.F
namespace Go.Proofs.YtiaccdaeomaogaaDoor.F
open Go.RowKit Go.Proofs.YtiaccdaeomaogaaDoorW.PrintWords Go.Proofs.YtiaccdaeomaogaaDoorW.PrintLast Go.Proofs.YtiaccdaeomaogaaDoorW.PrintMore
set_option linter.unusedVariables false
set_option linter.unusedSimpArgs false
def Tot {α : Type} (F : Nat → Option α) (v : α) : Prop := ∃ K, ∀ k, K ≤ k → F k = some v
theorem Tot.const {α : Type} (v : α) : Tot (fun _ => some v) v := ⟨0, fun _ _ => rfl⟩
theorem Tot.succ {α : Type} {F : Nat → Option α} {v : α} (h : Tot (fun k => F (k + 1)) v) : Tot F v := by
  obtain ⟨K, hK⟩ := h
  refine ⟨K + 1, fun k hk => ?_⟩
  obtain ⟨j, rfl⟩ : ∃ j, k = j + 1 := ⟨k - 1, by omega⟩
  exact hK j (by omega)
theorem Tot.bind {α β : Type} {F : Nat → Option α} {G : Nat → α → Option β} {a : α} {b : β} (hF : Tot F a) (hG : Tot (fun k => G k a) b) : Tot (fun k => (F k).bind (G k)) b := by
  obtain ⟨K, hK⟩ := hF
  obtain ⟨L, hL⟩ := hG
  refine ⟨max K L, fun k hk => ?_⟩
  show (F k).bind (G k) = some b
  rw [hK k (by omega)]
  exact hL k (by omega)
theorem w1 {x : Int} (h : 0 ≤ x) (g : x < 9223372036854775807) : wrap64 (x + 1) = x + 1 := by unfold wrap64; omega
theorem I64.w (x : Int) : I64 (wrap64 x) := by unfold I64 wrap64; omega
theorem Name_tot (a : ByteArray) (h : a.size < 9223372036854775807) : ∃ b, lex_Name.f a = some b := by
  unfold lex_Name.f utf8_ValidString.f utf8_RuneCountInString.f lex_wordy.f
  simp only [if_pos h, Option.bind_some]
  by_cases h1 : Lib.validD a.data.toList = true
  · rw [if_pos h1]
    by_cases h2 : (wordyFrom a a.size 0 && !a.toList.isEmpty) = true
    · rw [if_pos h2]
      have h3 : 0 < (a.size : Int) := by
        have h4 := (Bool.and_eq_true _ _ ▸ h2).2
        by_cases h5 : a.size = 0
        · have : a.toList = [] := by rw [Lib.toList_data]; exact List.length_eq_zero_iff.mp (by simpa using h5)
          rw [this] at h4; cases h4
        · omega
      rw [if_pos h3]
      by_cases h6 : bt a 0 < 48
      · rw [if_pos h6]; exact ⟨_, rfl⟩
      · rw [if_neg h6]; split <;> exact ⟨_, rfl⟩
    · rw [if_neg h2]; exact ⟨_, rfl⟩
  · rw [if_neg h1]; exact ⟨_, rfl⟩
end Go.Proofs.YtiaccdaeomaogaaDoor.F
namespace Go.Proofs.YtiaccdaeomaogaaDoor.F
open Go.RowKit Go.Proofs.YtiaccdaeomaogaaDoorW.PrintWords Go.Proofs.YtiaccdaeomaogaaDoorW.PrintLast Go.Proofs.YtiaccdaeomaogaaDoorW.PrintMore Go.Deep
set_option linter.unusedVariables false
set_option linter.unusedSimpArgs false
section
variable {H : Type} {enc : TypeId × Value → H} {P : Program} {w : World} {base : Nat} {spare : Nat → Bool} {held : Bool}
theorem slice_cells {α : Type} {d : Kd α} {Ok : α → Prop} (z : α) {t e : TypeId} {fuel : Nat} {cs : List Value} {x : DataW H × List MemPlace} (ht : P.underlying t = some (.slice e)) (hc : P.cellsOf e = d.sz)
    (elem : ∀ n, n < fuel → ∀ cs x, DataW.trod enc P w base spare held n e cs = some x → ∃ y, d.K w y cs ∧ Ok y) (h : DataW.trod enc P w base spare held fuel t cs = some x) :
    ∃ (A : Option Addr) (c : Nat) (l : List α), cs = [.slice A l.length c] ∧ (l.length ≤ c ∧ l.length ≤ maxLen) ∧ d.C w A l.length l ∧ ∀ y ∈ l, Ok y := by
  rcases DataW.trod_slice ht h with ⟨hcs, _⟩ | ⟨ad, len, cap, elems, rest, n, hf, hcs, _, hb, hl, hm, hlen, hel, _⟩
  · exact ⟨none, 0, [], hcs, ⟨Nat.le_refl _, by simp⟩, ⟨rfl, by simp, fun h => absurd h (Nat.lt_irrefl 0)⟩, fun y hy => nomatch hy⟩
  · have hch : ∀ i, i < len → ∃ y : α, (∃ cs', w.cells? base (ad.add (i * d.sz)) d.sz = some cs' ∧ d.K w y cs') ∧ Ok y := by
      intro i hlt
      have h1 := hel i hlt
      rw [List.getElem?_eq_getElem (by omega)] at h1
      obtain ⟨cs', h2, h3⟩ := Option.bind_eq_some_iff.mp h1
      rw [hc] at h2
      obtain ⟨y, h4, h5⟩ := elem n (by omega) _ _ h3
      exact ⟨y, ⟨cs', h2, h4⟩, h5⟩
    haveI : Inhabited α := ⟨z⟩
    obtain ⟨Y, hY⟩ := choose_lt hch
    have hlY : ((List.range len).map Y).length = len := by simp
    refine ⟨some ad, cap, (List.range len).map Y, by rw [hlY]; exact hcs, ⟨by rw [hlY]; exact hl, by rw [hlY]; omega⟩, ⟨rfl, by rw [hlY]; unfold maxLen at hm; omega, fun _ => ⟨ad, rfl, fun j p hp => ?_⟩⟩, fun y hy => ?_⟩
    · rw [List.getElem?_map] at hp
      have hj : j < len := by
        by_cases hj : j < len
        · exact hj
        · rw [List.getElem?_eq_none (by simp; omega)] at hp; simp at hp
      rw [List.getElem?_range hj] at hp
      simp at hp
      subst hp
      obtain ⟨⟨cs', h1, h2⟩, _⟩ := hY j hj
      refine ⟨cs', d.K_len h2, h2, fun i u hu => ?_⟩
      have h3 := (World.cells?_some h1).2.2
      have hi : i < d.sz := by have := (List.getElem?_eq_some_iff.1 hu).1; rw [d.K_len h2] at this; exact this
      have h4 := h3 i hi
      rw [Deep.add_add] at h4
      exact h4.trans hu
    · obtain ⟨i, hi, rfl⟩ := List.mem_map.mp hy
      exact (hY i (List.mem_range.mp hi)).2
theorem wf_I64 {a : Int} (h : (Lit.int .i64 a).wf = true) : I64 a := by
  simp only [Lit.wf, Bool.and_eq_true, decide_eq_true_eq] at h
  have h1 : IntKind.min .i64 = -9223372036854775808 := by decide
  have h2 : IntKind.max .i64 = 9223372036854775807 := by decide
  unfold I64; omega
theorem len2 {α : Type} {l : List α} (h : l.length = 2) : ∃ a b, l = [a, b] := match l, h with | [a, b], _ => ⟨a, b, rfl⟩
theorem len8 {α : Type} {l : List α} (h : l.length = 8) : ∃ a b c d e f g i, l = [a, b, c, d, e, f, g, i] := match l, h with | [a, b, c, d, e, f, g, i], _ => ⟨a, b, c, d, e, f, g, i, rfl⟩
end
section
variable {H : Type} {enc : TypeId × Value → H} {w : World} {base : Nat} {spare : Nat → Bool} {held : Bool}
theorem cells_int : Tryd.prog.cellsOf 3 = 1 := by kernel_rfl
theorem cells_bool : Tryd.prog.cellsOf 4 = 1 := by kernel_rfl
theorem cells_str : Tryd.prog.cellsOf 9 = 1 := by kernel_rfl
theorem cells_cell : Tryd.prog.cellsOf 69 = 2 := by kernel_rfl
theorem cell_item (fuel : Nat) (cs : List Value) (x : DataW H × List MemPlace) (h : DataW.trod enc Tryd.prog w base spare held fuel 69 cs = some x) : ∃ y : S69, k69.K w y cs ∧ I64 y.f1 := by
  obtain ⟨xs, n, hn, _, hl, hx, hf⟩ := DataW.trod_struct Tryd.underlying69 h
  rw [cells_cell] at hl
  have hx4 : xs.length = 2 := hx
  have h0 : DataW.trod enc Tryd.prog w base spare held n 9 ((cs.drop 0).take (Tryd.prog.cellsOf 9)) = xs[0]? := hf 0 _ rfl
  have h1 : DataW.trod enc Tryd.prog w base spare held n 3 ((cs.drop 1).take (Tryd.prog.cellsOf 3)) = xs[1]? := hf 1 _ rfl
  rw [cells_str] at h0
  rw [cells_int] at h1
  rw [List.getElem?_eq_getElem (by omega)] at h0 h1
  obtain ⟨a0, e0, _, w0⟩ := DataW.trod_string Tryd.underlying9 h0
  obtain ⟨a1, e1, _, w1⟩ := DataW.trod_int Tryd.underlying3 h1
  obtain ⟨d0, d1, rfl⟩ := len2 hl
  simp at e0 e1
  rw [e0, e1]
  exact ⟨⟨a0, a1⟩, k69_mk w ⟨a0, a1⟩, wf_I64 w1⟩
theorem slice_val {a : Option Addr} {len cap : Nat} {α : Type} {d : Kd α} {Ok : α → Prop} (h : ∃ (A : Option Addr) (c : Nat) (l : List α), (Value.cells (.slice a len cap)).toList = [.slice A l.length c] ∧ (l.length ≤ c ∧ l.length ≤ maxLen) ∧ d.C w A l.length l ∧ ∀ y ∈ l, Ok y) :
    ∃ l : List α, l.length = len ∧ (l.length ≤ cap ∧ l.length ≤ maxLen) ∧ d.C w a l.length l ∧ ∀ y ∈ l, Ok y := by
  obtain ⟨A, c, l, e, h1, h2, h3⟩ := h
  simp [Value.cells] at e
  obtain ⟨rfl, rfl, rfl⟩ := e
  exact ⟨l, rfl, h1, h2, h3⟩
theorem cells_open {fuel : Nat} {a : Option Addr} {len cap : Nat} {x : DataW H × List MemPlace} (h : DataW.trod enc Tryd.prog w base spare held fuel 35 (Value.cells (.slice a len cap)).toList = some x) :
    ∃ l : List S69, l.length = len ∧ (l.length ≤ cap ∧ l.length ≤ maxLen) ∧ Kd.C k69 w a l.length l ∧ ∀ y ∈ l, I64 y.f1 :=
  slice_val (slice_cells z69 Tryd.underlying35 (by rw [cells_cell]; rfl) (fun m _ => cell_item m) h)
end
end Go.Proofs.YtiaccdaeomaogaaDoor.F
namespace Go.Proofs.YtiaccdaeomaogaaDoor.F
open Go.RowKit Go.Proofs.YtiaccdaeomaogaaDoorW.PrintWords Go.Proofs.YtiaccdaeomaogaaDoorW.PrintLast Go.Proofs.YtiaccdaeomaogaaDoorW.PrintMore Go.Deep Go.ChangeShapes Go.WideShapes
set_option linter.unusedVariables false
set_option linter.unusedSimpArgs false
section
variable {H : Type} {enc : TypeId × Value → H} {P : Program} {w : World} {base : Nat} {spare : Nat → Bool} {held : Bool}
theorem agg_cells (cs : Array Value) : (Value.cells (.agg cs)).toList = cs.toList := rfl
theorem arr_eq {cs : Array Value} {l : List Value} (h : (Value.cells (.agg cs)).toList = l) : cs = l.toArray := by
  rw [agg_cells] at h; rw [← h]
end
section
variable {H : Type} {enc : TypeId × Value → H} {P : Program} {w : World} {base : Nat} {spare : Nat → Bool} {held : Bool}
theorem cells_mach : Tryd.prog.cellsOf 57 = 2 := by kernel_rfl
theorem mach_item (fuel : Nat) (cs : List Value) (x : DataW H × List MemPlace) (h : DataW.trod enc Tryd.prog w base spare held fuel 57 cs = some x) : ∃ a b : Int, cs = [.int .i64 a, .int .i64 b] ∧ I64 a ∧ I64 b := by
  obtain ⟨xs, n, hn, _, hl, hx, hf⟩ := DataW.trod_struct Tryd.underlying57 h
  rw [cells_mach] at hl
  have hx4 : xs.length = 2 := hx
  have h0 : DataW.trod enc Tryd.prog w base spare held n 3 ((cs.drop 0).take (Tryd.prog.cellsOf 3)) = xs[0]? := hf 0 _ rfl
  have h1 : DataW.trod enc Tryd.prog w base spare held n 3 ((cs.drop 1).take (Tryd.prog.cellsOf 3)) = xs[1]? := hf 1 _ rfl
  rw [cells_int] at h0
  rw [cells_int] at h1
  rw [List.getElem?_eq_getElem (by omega)] at h0 h1
  obtain ⟨a0, e0, _, w0⟩ := DataW.trod_int Tryd.underlying3 h0
  obtain ⟨a1, e1, _, w1⟩ := DataW.trod_int Tryd.underlying3 h1
  obtain ⟨d0, d1, rfl⟩ := len2 hl
  simp at e0 e1
  rw [e0, e1]
  exact ⟨a0, a1, rfl, wf_I64 w0, wf_I64 w1⟩
end
section
variable {H : Type} {enc : TypeId × Value → H} {P : Program} {w : World} {base : Nat} {spare : Nat → Bool} {held : Bool}
theorem cells_phase : Tryd.prog.cellsOf 82 = 8 := by kernel_rfl
theorem cells_errno : Tryd.prog.cellsOf 29 = 1 := by kernel_rfl
theorem cells_scell : Tryd.prog.cellsOf 35 = 1 := by kernel_rfl
theorem cells_cells {fuel : Nat} {cs : List Value} {x : DataW H × List MemPlace} (h : DataW.trod enc Tryd.prog w base spare held fuel 35 cs = some x) :
    ∃ (A : Option Addr) (c : Nat) (l : List S69), cs = [.slice A l.length c] ∧ (l.length ≤ c ∧ l.length ≤ maxLen) ∧ k69.C w A l.length l ∧ ∀ y ∈ l, I64 y.f1 :=
  slice_cells z69 Tryd.underlying35 (by rw [cells_cell]; rfl) (fun m _ => cell_item m) h
theorem phase_arg {fuel : Nat} {cs : Array Value} {x : DataW H × List MemPlace} (h : DataW.trod enc Tryd.prog w base spare held fuel 82 (Value.cells (.agg cs)).toList = some x) :
    ∃ (a0 a1 a2 a3 a4 : Int) (a5 : Bool) (a6 : Int) (A : Option Addr) (c : Nat) (l : List S69),
      cs = #[.int .i64 a0, .int .i64 a1, .int .i64 a2, .int .i64 a3, .int .i64 a4, .bool a5, .int .i64 a6, .slice A l.length c] ∧ (l.length ≤ c ∧ Kd.C k69 w A l.length l ∧ ∀ y ∈ l, I64 y.f1) ∧ I64 a2 ∧ I64 a4 := by
  obtain ⟨xs, n, hn, _, hl, hx, hf⟩ := DataW.trod_struct Tryd.underlying82 h
  rw [cells_phase] at hl
  have hx4 : xs.length = 6 := hx
  generalize hcs : (Value.cells (.agg cs)).toList = cl at *
  have h0 : DataW.trod enc Tryd.prog w base spare held n 3 ((cl.drop 0).take (Tryd.prog.cellsOf 3)) = xs[0]? := hf 0 _ rfl
  have h1 : DataW.trod enc Tryd.prog w base spare held n 57 ((cl.drop 1).take (Tryd.prog.cellsOf 57)) = xs[1]? := hf 1 _ rfl
  have h2 : DataW.trod enc Tryd.prog w base spare held n 57 ((cl.drop 3).take (Tryd.prog.cellsOf 57)) = xs[2]? := hf 2 _ rfl
  have h3 : DataW.trod enc Tryd.prog w base spare held n 4 ((cl.drop 5).take (Tryd.prog.cellsOf 4)) = xs[3]? := hf 3 _ rfl
  have h4 : DataW.trod enc Tryd.prog w base spare held n 29 ((cl.drop 6).take (Tryd.prog.cellsOf 29)) = xs[4]? := hf 4 _ rfl
  have h5 : DataW.trod enc Tryd.prog w base spare held n 35 ((cl.drop 7).take (Tryd.prog.cellsOf 35)) = xs[5]? := hf 5 _ rfl
  rw [cells_int] at h0
  rw [cells_mach] at h1 h2
  rw [cells_bool] at h3
  rw [cells_errno] at h4
  rw [cells_scell] at h5
  rw [List.getElem?_eq_getElem (by omega)] at h0 h1 h2 h3 h4 h5
  obtain ⟨a0, e0, _, _⟩ := DataW.trod_int Tryd.underlying3 h0
  obtain ⟨a1, a2, e1, i1, i2⟩ := mach_item _ _ _ h1
  obtain ⟨a3, a4, e2, i3, i4⟩ := mach_item _ _ _ h2
  obtain ⟨a5, e3, _⟩ := DataW.trod_bool Tryd.underlying4 h3
  obtain ⟨a6, e4, _, _⟩ := DataW.trod_int Tryd.underlying29 h4
  obtain ⟨A, c, l, e5, b5, g5, o5⟩ := cells_cells h5
  obtain ⟨d0, d1, d2, d3, d4, d5, d6, d7, rfl⟩ := len8 hl
  simp at e0 e1 e2 e3 e4 e5
  obtain ⟨e10, e11⟩ := e1
  obtain ⟨e20, e21⟩ := e2
  rw [e0, e10, e11, e20, e21, e3, e4, e5] at hcs
  exact ⟨a0, a1, a2, a3, a4, a5, a6, A, c, l, arr_eq hcs, ⟨b5.1, g5, o5⟩, i2, i4⟩
end
end Go.Proofs.YtiaccdaeomaogaaDoor.F
