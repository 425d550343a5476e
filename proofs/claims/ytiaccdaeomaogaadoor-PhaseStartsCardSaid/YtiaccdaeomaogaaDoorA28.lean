/- Texts of one claim, slimmed and merged by slim.py. -/
import Derived.Laws.EntriesVeiled
import Derived.Test.YtiaccdaeomaogaaDoorA4
import Derived.Test.YtiaccdaeomaogaaDoorA6
import Derived.Test.YtiaccdaeomaogaaDoorA16
import Derived.Test.YtiaccdaeomaogaaDoorA18
import Derived.Test.YtiaccdaeomaogaaDoorA21
namespace Go.Proofs.YtiaccdaeomaogaaDoor.F
open Go.RowKit Go.Proofs.YtiaccdaeomaogaaDoorW.PrintWords Go.Proofs.YtiaccdaeomaogaaDoorW.PrintLast Go.Proofs.YtiaccdaeomaogaaDoorW.PrintMore
attribute [local go_sem] max2_int min2_int max_two min_two max_three min_three max_four min_four   -- for this text's walks alone
set_option linter.unusedVariables false
set_option linter.unusedSimpArgs false
def waitsAny : List S67 → Bool
  | [] => false
  | c :: l => if c.f0 = 1 then true else waitsAny l
theorem drop_T67 {l : List S67} {i : Int} (h0 : 0 ≤ i) (h1 : i < l.length) : l.drop i.toNat = rd_T67 l i :: l.drop (i + 1).toNat := by
  have h : i.toNat < l.length := by omega
  rw [show (i + 1).toNat = i.toNat + 1 from by omega, List.drop_eq_getElem_cons h]
  unfold rd_T67; rw [List.getD, List.getElem?_eq_getElem h]; rfl
set_option maxHeartbeats 4000000 in
set_option maxRecDepth 100000 in
theorem waits_lit (n0 n3 n4 n7 : Int) (s1 s2 s5 : ByteArray) (A : Option Addr) (n c : Nat) (b : Bool) (w : World) (h : (n0 == 1) = b) :
    Calls Tryd.prog 112 #[.agg #[.int .i64 n0, .string s1, .string s2, .int .i64 n3, .int .i64 n4, .string s5, .slice A n c, .int .i64 n7]] w fun e w' => e = .returned (.bool b) ∧ Below w.heap.size w w' := by
  have hu67 := Tryd.underlying67
  go_enter Tryd.func112, Tryd.ntmps112
  go_wp2_with (first | ((with_reducible refine gate_dst (N := 1) rfl ?_); refine box_event ?hg (N := 1) ?hd (cs := #[.int .i64 n0, .string s1, .string s2, .int .i64 n3, .int .i64 n4, .string s5, .slice A n c, .int .i64 n7]) (t := 67) ?hr ?_; (case hd => rfl); (case hg => rfl); (case hr => first | (go_simp; done) | (go_simp; rfl)); intro gb hg w4 hbox hb; have HB4 := Aside0.mk hb; clear hb hg; have hcz0 : w4.cell? ⟨gb, 0, none⟩ = some (.int .i64 n0) := (blk_cell hbox 0).trans rfl; clear hbox))
  go_ret
  exact ⟨by first | rfl | (rw [h]; done) | (simp [h]; done), HB4.out⟩
set_option maxHeartbeats 4000000 in
set_option maxRecDepth 100000 in
theorem IndexFunc_waits (A0 : Option Addr) (c0 : Nat) (l0 : List S67) (b : Bool) (w : World) (hr0 : Kd.C k67 w A0 l0.length l0) (hc0 : l0.length ≤ c0) (h : waitsAny l0 = b) :
    Calls Tryd.prog 147 #[.slice A0 l0.length c0, .func (.func 112) #[] #[]] w fun e w' => (∃ j : Int, e = .returned (.int .i64 j) ∧ decide (0 ≤ j) = b) ∧ Below w.heap.size w w' := by
  have hu67 := Tryd.underlying67
  have HR0 := Aside0.mk hr0
  have HC0 := Aside0.mk hc0
  have HM := Aside0.mk hr0.2.1
  have HN := Aside0.mk h
  clear hr0 hc0 h
  go_enter Tryd.func147, Tryd.ntmps147
  go_wp2
  go_loopg [8] (l0.length) (fun kq v8 w' => ∃ x8 : Int, v8 = .int .i64 x8 ∧ Aside0 (0 ≤ x8 ∧ x8 ≤ (l0.length : Int) ∧ (kq : Int) = l0.length - x8 ∧ waitsAny (l0.drop x8.toNat) = b) ∧ Aside0 (Below w.heap.size w w'))
  case atStart => exact ⟨0, rfl, ⟨by omega, by omega, by omega, HN.out⟩, ⟨by first | exact Below.refl _ _ | exact pw_below_drewN (Below.refl _ _) _⟩⟩
  case round =>
    clear HN
    obtain ⟨x8, rfl, HI, HB⟩ := hrel
    by_cases hlt : x8 < (l0.length : Int)
    · have c3b0 : decide (x8 < (l0.length : Int)) = true := decide_eq_true hlt
      have p155 := HI.out.1
      have q155 := hlt
      have hd := drop_T67 p155 q155
      have hn := HI.out.2.2.2
      rw [hd] at hn
      have HI2 : Aside0 (0 ≤ x8 ∧ x8 < (l0.length : Int) ∧ (gk : Int) = l0.length - x8) := ⟨HI.out.1, hlt, HI.out.2.2.1⟩
      obtain ⟨ad, A6, c6, e1, y0, y1, y2, y3, y4, y5, y6, y7, -, -⟩ := at_T67 (Kd.C_below HR0.out HB.out) x8 p155 q155
      cases e1
      have c4b0 : decide (0 ≤ x8) = true := decide_eq_true p155
      replace p155 := eq_true p155
      replace q155 := eq_true q155
      clear hlt HI hd
      generalize rd_T67 l0 x8 = y at *
      unfold waitsAny at hn
      by_cases ht : y.f0 = 1
      · rw [if_pos ht] at hn
        subst hn
        have HX := Aside0.mk (waits_lit y.f0 y.f3.f0 y.f3.f1 y.f4 y.f1 y.f2 y.f3.f2 A6 y.f3.f3.length c6 true wr (beq_iff_eq.mpr ht))
        clear ht
        go_wp2_with (first | (go_at_call 112; refine HX.out.mono ?_; rintro e w' ⟨rfl, hb⟩; have HB2 := Aside0.mk (below_step HB.out hb); clear hb))
        go_ret
        exact ⟨⟨x8, rfl, c4b0⟩, HB2.out⟩
      rw [if_neg ht] at hn
      have HX := Aside0.mk (waits_lit y.f0 y.f3.f0 y.f3.f1 y.f4 y.f1 y.f2 y.f3.f2 A6 y.f3.f3.length c6 false wr (beq_eq_false_iff_ne.mpr ht))
      have HN2 := Aside0.mk hn
      clear ht hn
      go_wp2_with (first | (go_at_call 112; refine HX.out.mono ?_; rintro e w' ⟨rfl, hb⟩; have HB2 := Aside0.mk (below_step HB.out hb); clear hb))
      go_roundg (l0.length - (x8 + 1)).toNat
      case measure => have := HI2.out; omega
      case rel => exact ⟨x8 + 1, by rw [show wrap64 (x8 + 1) = x8 + 1 from by have := HI2.out; have := HM.out; unfold wrap64; omega], ⟨by have := HI2.out; omega, by have := HI2.out; omega, by have := HI2.out; omega, HN2.out⟩, HB2⟩
    have c3b0 : decide (x8 < (l0.length : Int)) = false := decide_eq_false hlt
    have hn := HI.out.2.2.2
    rw [List.drop_eq_nil_of_le (by have := HI.out; omega)] at hn
    have hb : b = false := hn.symm
    subst hb
    clear hlt HI hn
    go_wp2
    go_ret
    exact ⟨⟨-1, rfl, rfl⟩, HB.out⟩
set_option maxHeartbeats 4000000 in
set_option maxRecDepth 100000 in
theorem ContainsFunc_waits (A0 : Option Addr) (c0 : Nat) (l0 : List S67) (b : Bool) (w : World) (hr0 : Kd.C k67 w A0 l0.length l0) (hc0 : l0.length ≤ c0) (h : waitsAny l0 = b) :
    Calls Tryd.prog 111 #[.slice A0 l0.length c0, .func (.func 112) #[] #[]] w fun e w' => e = .returned (.bool b) ∧ Below w.heap.size w w' := by
  have HX := Aside0.mk (IndexFunc_waits A0 c0 l0 b w hr0 hc0 h)
  clear hr0 hc0 h
  go_enter Tryd.func111, Tryd.ntmps111
  go_wp2_with (first | (go_at_call 147; refine HX.out.mono ?_; rintro e w' ⟨⟨j, rfl, hj⟩, hb⟩; have HB2 := Aside0.mk hb; clear hb))
  go_ret
  exact ⟨by first | rfl | (simp [hj]; done) | (simp [ge_iff_le, hj]; done), HB2.out⟩
def phase_Check.ends (k : Nat) : List (List S67) → Option Int
  | [] => some 0
  | x :: xs => if waitsAny x = true then some 1 else (prog_Ends.f k x).bind fun t => if t = true then phase_Check.ends k xs else some 1
def phase_Check.all (k : Nat) (l1 l2 l3 : List ByteArray) (ls2 : List (List S67)) : List (List S67) → Option Int
  | [] => phase_Check.ends k ls2
  | x :: xs => (prog_Check.f k x l1 l2 l3).bind fun e => if e = 0 then phase_Check.all k l1 l2 l3 ls2 xs else some e
def phase_Check.f (k : Nat) (l0_0 l0_1 l0_2 l0_3 l0_4 : List S67) (l1 l2 l3 : List ByteArray) : Option (Int) := phase_Check.all k l1 l2 l3 [l0_1, l0_2, l0_3, l0_4] [l0_0, l0_1, l0_2, l0_3, l0_4]
theorem phase_Check.ends_mono (k : Nat) : ∀ xs, LeO (phase_Check.ends k xs) (phase_Check.ends (k + 1) xs)
  | [] => LeO.refl _
  | x :: xs => by
    unfold phase_Check.ends
    exact LeO.ite (LeO.refl _) (LeO.bind (prog_Ends.mono _ _) (fun _ => LeO.ite (phase_Check.ends_mono k xs) (LeO.refl _)))
theorem phase_Check.all_mono (k : Nat) (l1 l2 l3 : List ByteArray) (ls2 : List (List S67)) : ∀ xs, LeO (phase_Check.all k l1 l2 l3 ls2 xs) (phase_Check.all (k + 1) l1 l2 l3 ls2 xs)
  | [] => phase_Check.ends_mono k ls2
  | x :: xs => by
    unfold phase_Check.all
    exact LeO.bind (prog_Check.mono _ _ _ _ _) (fun _ => LeO.ite (phase_Check.all_mono k l1 l2 l3 ls2 xs) (LeO.refl _))
theorem phase_Check.mono : ∀ a0 a1 a2 a3 a4 a5 a6 a7 k, LeO (phase_Check.f k a0 a1 a2 a3 a4 a5 a6 a7) (phase_Check.f (k + 1) a0 a1 a2 a3 a4 a5 a6 a7) := by
  intro a0 a1 a2 a3 a4 a5 a6 a7 k
  exact phase_Check.all_mono k _ _ _ _ _
theorem phase_Check.all_cons {k : Nat} {l1 l2 l3 : List ByteArray} {ls2 xs : List (List S67)} {x : List S67} {r : Int} (h : phase_Check.all k l1 l2 l3 ls2 (x :: xs) = some r) :
  ∃ e, prog_Check.f k x l1 l2 l3 = some e ∧ ((e = 0 ∧ phase_Check.all k l1 l2 l3 ls2 xs = some r) ∨ (e ≠ 0 ∧ r = e)) := by
 unfold phase_Check.all at h
 obtain ⟨e, he, h⟩ := Option.bind_eq_some_iff.mp h
 refine ⟨e, he, ?_⟩
 by_cases c : e = 0
 ·rw [if_pos c] at h; exact Or.inl ⟨c, h⟩
 rw [if_neg c] at h; exact Or.inr ⟨c, (Option.some.inj h).symm⟩
theorem phase_Check.ends_cons {k : Nat} {xs : List (List S67)} {x : List S67} {r : Int} (h : phase_Check.ends k (x :: xs) = some r) :
  (waitsAny x = true ∧ r = 1) ∨ (waitsAny x = false ∧ ∃ t, prog_Ends.f k x = some t ∧ ((t = true ∧ phase_Check.ends k xs = some r) ∨ (t = false ∧ r = 1))) := by
 unfold phase_Check.ends at h
 by_cases c : waitsAny x = true
 ·rw [if_pos c] at h; exact Or.inl ⟨c, (Option.some.inj h).symm⟩
 rw [if_neg c] at h
 obtain ⟨t, ht, h⟩ := Option.bind_eq_some_iff.mp h
 refine Or.inr ⟨by simpa using c, t, ht, ?_⟩
 cases t with
 | true => rw [if_pos rfl] at h; exact Or.inl ⟨rfl, h⟩
 | false => rw [if_neg (by decide)] at h; exact Or.inr ⟨rfl, (Option.some.inj h).symm⟩
set_option maxHeartbeats 40000000 in
set_option maxRecDepth 100000 in
theorem phase_Check.calls (k : Nat) (A0_0 : Option Addr) (c0_0 : Nat) (l0_0 : List (S67)) (A0_1 : Option Addr) (c0_1 : Nat) (l0_1 : List (S67)) (A0_2 : Option Addr) (c0_2 : Nat) (l0_2 : List (S67)) (A0_3 : Option Addr) (c0_3 : Nat) (l0_3 : List (S67)) (A0_4 : Option Addr) (c0_4 : Nat) (l0_4 : List (S67)) (A1 : Option Addr) (c1 : Nat) (l1 : List ByteArray) (A2 : Option Addr) (c2 : Nat) (l2 : List ByteArray) (A3 : Option Addr) (c3 : Nat) (l3 : List ByteArray) (r : Int) (w : World) (hr0_0 : Kd.C k67 w A0_0 l0_0.length l0_0) (hc0_0 : l0_0.length ≤ c0_0) (hr0_1 : Kd.C k67 w A0_1 l0_1.length l0_1) (hc0_1 : l0_1.length ≤ c0_1) (hr0_2 : Kd.C k67 w A0_2 l0_2.length l0_2) (hc0_2 : l0_2.length ≤ c0_2) (hr0_3 : Kd.C k67 w A0_3 l0_3.length l0_3) (hc0_3 : l0_3.length ≤ c0_3) (hr0_4 : Kd.C k67 w A0_4 l0_4.length l0_4) (hc0_4 : l0_4.length ≤ c0_4) (hr1 : Kd.C Kd.string w A1 l1.length l1) (hc1 : l1.length ≤ c1) (hr2 : Kd.C Kd.string w A2 l2.length l2) (hc2 : l2.length ≤ c2) (hr3 : Kd.C Kd.string w A3 l3.length l3) (hc3 : l3.length ≤ c3) (h : phase_Check.f k l0_0 l0_1 l0_2 l0_3 l0_4 l1 l2 l3 = some r) (hT : UT w) :
    Calls Tryd.prog 80 #[.agg #[.slice A0_0 l0_0.length c0_0, .slice A0_1 l0_1.length c0_1, .slice A0_2 l0_2.length c0_2, .slice A0_3 l0_3.length c0_3, .slice A0_4 l0_4.length c0_4], .slice A1 l1.length c1, .slice A2 l2.length c2, .slice A3 l3.length c3] w fun e w' => e = .returned (.int .i64 r) ∧ Below w.heap.size w w' := by
  have hu80 := Tryd.underlying80
  have hup := Tryd.underlying156
  have HT0 := Aside0.mk hT
  have HH := Aside0.mk h
  have HR0_0 := Aside0.mk hr0_0
  have HC0_0 := Aside0.mk hc0_0
  have HR0_1 := Aside0.mk hr0_1
  have HC0_1 := Aside0.mk hc0_1
  have HR0_2 := Aside0.mk hr0_2
  have HC0_2 := Aside0.mk hc0_2
  have HR0_3 := Aside0.mk hr0_3
  have HC0_3 := Aside0.mk hc0_3
  have HR0_4 := Aside0.mk hr0_4
  have HC0_4 := Aside0.mk hc0_4
  have HR1 := Aside0.mk hr1
  have HC1 := Aside0.mk hc1
  have HR2 := Aside0.mk hr2
  have HC2 := Aside0.mk hc2
  have HR3 := Aside0.mk hr3
  have HC3 := Aside0.mk hc3
  clear hT h hr0_0 hc0_0 hr0_1 hc0_1 hr0_2 hc0_2 hr0_3 hc0_3 hr0_4 hc0_4 hr1 hc1 hr2 hc2 hr3 hc3
  go_enter Tryd.func80, Tryd.ntmps80
  go_wp2_with (first | ((with_reducible refine gate_dst (N := 4) rfl ?_); refine box_event ?hg (N := 4) ?hd (cs := #[.slice A0_0 l0_0.length c0_0, .slice A0_1 l0_1.length c0_1, .slice A0_2 l0_2.length c0_2, .slice A0_3 l0_3.length c0_3, .slice A0_4 l0_4.length c0_4]) (t := 80) ?hr ?_; (case hd => rfl); (case hg => rfl); (case hr => first | (go_simp; done) | (go_simp; rfl)); intro gb hg w4 hbox hb; have HB4 := Aside0.mk hb; have HK4 := Aside0.mk hbox; clear hb hg hbox) | (go_at_call 110; refine (parts_calls _).mono ?_; rintro e w5 ⟨gp, rfl, hge, hbk, hb⟩; have HK5 := Aside0.mk (blk_below HK4.out hb); have HP5 := Aside0.mk hbk; have HB5 := Aside0.mk (below_step HB4.out hb); clear hb hbk hge))
  go_loopg [17] 5 (fun kq v17 w' => ∃ i : Nat, v17 = .int .i64 (i : Int) ∧ Aside0 (i ≤ 5 ∧ kq + i = 5) ∧ Aside0 (phase_Check.all k l1 l2 l3 [l0_1, l0_2, l0_3, l0_4] ([l0_0, l0_1, l0_2, l0_3, l0_4].drop i) = some r) ∧ Aside0 (w'.heap[gb]? = some (.cells #[.slice A0_0 l0_0.length c0_0, .slice A0_1 l0_1.length c0_1, .slice A0_2 l0_2.length c0_2, .slice A0_3 l0_3.length c0_3, .slice A0_4 l0_4.length c0_4] 80 (0, 0))) ∧ Aside0 (w'.heap[gp]? = some (.cells partCells 156 (0, 0))) ∧ Aside0 (Below w.heap.size w w'))
  case atStart => exact ⟨0, rfl, ⟨by omega, by omega⟩, HH, HK5, HP5, HB5⟩
  case round =>
    clear HK5 HP5 HB5 HK4 HB4 HH
    obtain ⟨i, rfl, HI, HC, HK, HP, HB⟩ := hrel
    have c : i = 0 ∨ i = 1 ∨ i = 2 ∨ i = 3 ∨ i = 4 ∨ i = 5 := by have := HI.out; omega
    rcases c with rfl | rfl | rfl | rfl | rfl | rfl
    · have hk0 : wr.cell? ⟨gp, 0, none⟩ = some (.int .i64 1) := (blk_cell HP.out 0).trans rfl
      have hk1 : wr.cell? ⟨gp, 1, none⟩ = some (.func (.func 142) #[] #[]) := (blk_cell HP.out 1).trans rfl
      have hq0 : wr.cell? ⟨gb, 0, none⟩ = some (.slice A0_0 l0_0.length c0_0) := (blk_cell HK.out 0).trans rfl
      have hq1 : wr.cell? ⟨gb, 1, none⟩ = some (.slice A0_1 l0_1.length c0_1) := (blk_cell HK.out 1).trans rfl
      have hq2 : wr.cell? ⟨gb, 2, none⟩ = some (.slice A0_2 l0_2.length c0_2) := (blk_cell HK.out 2).trans rfl
      have hq3 : wr.cell? ⟨gb, 3, none⟩ = some (.slice A0_3 l0_3.length c0_3) := (blk_cell HK.out 3).trans rfl
      have hq4 : wr.cell? ⟨gb, 4, none⟩ = some (.slice A0_4 l0_4.length c0_4) := (blk_cell HK.out 4).trans rfl
      obtain ⟨ev, he, hc⟩ := phase_Check.all_cons (x := l0_0) (xs := [l0_1, l0_2, l0_3, l0_4]) HC.out
      have HE := Aside0.mk he
      clear he HC
      rcases hc with ⟨hz, hc⟩ | ⟨hz, hc⟩
      · subst hz
        have HNX := Aside0.mk hc
        clear hc
        go_wp2_with (first | ((with_reducible refine gate_dst (N := 10) rfl ?_); refine box_event ?hg (N := 10) ?hd (cs := #[.int .i64 0, .nilFunc]) (t := 156) ?hr ?_; (case hd => rfl); (case hg => rfl); (case hr => first | (go_simp; done) | (go_simp; rfl)); intro gx hgx w6 hbox hb; have HB6 := Aside0.mk (below_step HB.out hb); have HK6 := Aside0.mk (blk_below HK.out hb); have HP6 := Aside0.mk (blk_below HP.out hb); have GEX := Aside0.mk (show w.heap.size ≤ gx by rw [hgx]; exact below_size HB.out); have HX6 := Aside0.mk hbox; have hne1 : ¬ gx = gb := (by have := blk_lt HK.out; omega); have hne2 : ¬ gb = gx := (fun e => hne1 e.symm); have hne3 : ¬ gx = gp := (by have := blk_lt HP.out; omega); have hne4 : ¬ gp = gx := (fun e => hne3 e.symm); have hx0 : w6.cell? ⟨gx, 0, none⟩ = some (.int .i64 0) := (blk_cell hbox 0).trans rfl; have hx1 : w6.cell? ⟨gx, 1, none⟩ = some .nilFunc := (blk_cell hbox 1).trans rfl; have hf0 := blk_frozen hbox 0; have hf1 := blk_frozen hbox 1; replace hk0 := pw_cell_below hb hk0; replace hk1 := pw_cell_below hb hk1; replace hq0 := pw_cell_below hb hq0; replace hq1 := pw_cell_below hb hq1; replace hq2 := pw_cell_below hb hq2; replace hq3 := pw_cell_below hb hq3; replace hq4 := pw_cell_below hb hq4; clear hb hbox hgx) | (go_at_call 142; refine (part_lit0 A0_0 A0_1 A0_2 A0_3 A0_4 l0_0.length l0_1.length l0_2.length l0_3.length l0_4.length c0_0 c0_1 c0_2 c0_3 c0_4 _).mono ?_; rintro e w7 ⟨rfl, hb⟩; have HB7 := Aside0.mk (below_step (below_set (below_set HB6.out GEX.out) GEX.out) hb); have HK7 := Aside0.mk (blk_below (blk_far (blk_far HK6.out hne2 _) hne2 _) hb); have HP7 := Aside0.mk (blk_below (blk_far (blk_far HP6.out hne4 _) hne4 _) hb); clear hb) | (go_at_call 44; refine (prog_Check.calls k A0_0 c0_0 l0_0 A1 c1 l1 A2 c2 l2 A3 c3 l3 _ _ (Kd.C_below HR0_0.out HB7.out) HC0_0.out (Kd.C_below HR1.out HB7.out) HC1.out (Kd.C_below HR2.out HB7.out) HC2.out (Kd.C_below HR3.out HB7.out) HC3.out HE.out (UT.below HT0.out HB7.out)).mono ?_; rintro e w8 ⟨rfl, hb⟩; have HB8 := Aside0.mk (below_step HB7.out hb); have HK8 := Aside0.mk (blk_below HK7.out hb); have HP8 := Aside0.mk (blk_below HP7.out hb); clear hb))
        go_roundg 4
        case measure => have := HI.out; omega
        case rel => exact ⟨1, by first | rfl | (simp; done), ⟨by omega, by omega⟩, HNX, HK8, HP8, HB8⟩
      subst hc
      have ce : (r != 0) = true := bne_iff_ne.mpr hz
      clear hz
      go_wp2_with (first | ((with_reducible refine gate_dst (N := 10) rfl ?_); refine box_event ?hg (N := 10) ?hd (cs := #[.int .i64 0, .nilFunc]) (t := 156) ?hr ?_; (case hd => rfl); (case hg => rfl); (case hr => first | (go_simp; done) | (go_simp; rfl)); intro gx hgx w6 hbox hb; have HB6 := Aside0.mk (below_step HB.out hb); have HK6 := Aside0.mk (blk_below HK.out hb); have HP6 := Aside0.mk (blk_below HP.out hb); have GEX := Aside0.mk (show w.heap.size ≤ gx by rw [hgx]; exact below_size HB.out); have HX6 := Aside0.mk hbox; have hne1 : ¬ gx = gb := (by have := blk_lt HK.out; omega); have hne2 : ¬ gb = gx := (fun e => hne1 e.symm); have hne3 : ¬ gx = gp := (by have := blk_lt HP.out; omega); have hne4 : ¬ gp = gx := (fun e => hne3 e.symm); have hx0 : w6.cell? ⟨gx, 0, none⟩ = some (.int .i64 0) := (blk_cell hbox 0).trans rfl; have hx1 : w6.cell? ⟨gx, 1, none⟩ = some .nilFunc := (blk_cell hbox 1).trans rfl; have hf0 := blk_frozen hbox 0; have hf1 := blk_frozen hbox 1; replace hk0 := pw_cell_below hb hk0; replace hk1 := pw_cell_below hb hk1; replace hq0 := pw_cell_below hb hq0; replace hq1 := pw_cell_below hb hq1; replace hq2 := pw_cell_below hb hq2; replace hq3 := pw_cell_below hb hq3; replace hq4 := pw_cell_below hb hq4; clear hb hbox hgx) | (go_at_call 142; refine (part_lit0 A0_0 A0_1 A0_2 A0_3 A0_4 l0_0.length l0_1.length l0_2.length l0_3.length l0_4.length c0_0 c0_1 c0_2 c0_3 c0_4 _).mono ?_; rintro e w7 ⟨rfl, hb⟩; have HB7 := Aside0.mk (below_step (below_set (below_set HB6.out GEX.out) GEX.out) hb); have HK7 := Aside0.mk (blk_below (blk_far (blk_far HK6.out hne2 _) hne2 _) hb); have HP7 := Aside0.mk (blk_below (blk_far (blk_far HP6.out hne4 _) hne4 _) hb); clear hb) | (go_at_call 44; refine (prog_Check.calls k A0_0 c0_0 l0_0 A1 c1 l1 A2 c2 l2 A3 c3 l3 _ _ (Kd.C_below HR0_0.out HB7.out) HC0_0.out (Kd.C_below HR1.out HB7.out) HC1.out (Kd.C_below HR2.out HB7.out) HC2.out (Kd.C_below HR3.out HB7.out) HC3.out HE.out (UT.below HT0.out HB7.out)).mono ?_; rintro e w8 ⟨rfl, hb⟩; have HB8 := Aside0.mk (below_step HB7.out hb); have HK8 := Aside0.mk (blk_below HK7.out hb); have HP8 := Aside0.mk (blk_below HP7.out hb); clear hb))
      go_ret
      exact ⟨rfl, HB8.out⟩
    · have hk0 : wr.cell? ⟨gp, 2, none⟩ = some (.int .i64 4) := (blk_cell HP.out 2).trans rfl
      have hk1 : wr.cell? ⟨gp, 3, none⟩ = some (.func (.func 143) #[] #[]) := (blk_cell HP.out 3).trans rfl
      have hq0 : wr.cell? ⟨gb, 0, none⟩ = some (.slice A0_0 l0_0.length c0_0) := (blk_cell HK.out 0).trans rfl
      have hq1 : wr.cell? ⟨gb, 1, none⟩ = some (.slice A0_1 l0_1.length c0_1) := (blk_cell HK.out 1).trans rfl
      have hq2 : wr.cell? ⟨gb, 2, none⟩ = some (.slice A0_2 l0_2.length c0_2) := (blk_cell HK.out 2).trans rfl
      have hq3 : wr.cell? ⟨gb, 3, none⟩ = some (.slice A0_3 l0_3.length c0_3) := (blk_cell HK.out 3).trans rfl
      have hq4 : wr.cell? ⟨gb, 4, none⟩ = some (.slice A0_4 l0_4.length c0_4) := (blk_cell HK.out 4).trans rfl
      obtain ⟨ev, he, hc⟩ := phase_Check.all_cons (x := l0_1) (xs := [l0_2, l0_3, l0_4]) HC.out
      have HE := Aside0.mk he
      clear he HC
      rcases hc with ⟨hz, hc⟩ | ⟨hz, hc⟩
      · subst hz
        have HNX := Aside0.mk hc
        clear hc
        go_wp2_with (first | ((with_reducible refine gate_dst (N := 10) rfl ?_); refine box_event ?hg (N := 10) ?hd (cs := #[.int .i64 0, .nilFunc]) (t := 156) ?hr ?_; (case hd => rfl); (case hg => rfl); (case hr => first | (go_simp; done) | (go_simp; rfl)); intro gx hgx w6 hbox hb; have HB6 := Aside0.mk (below_step HB.out hb); have HK6 := Aside0.mk (blk_below HK.out hb); have HP6 := Aside0.mk (blk_below HP.out hb); have GEX := Aside0.mk (show w.heap.size ≤ gx by rw [hgx]; exact below_size HB.out); have HX6 := Aside0.mk hbox; have hne1 : ¬ gx = gb := (by have := blk_lt HK.out; omega); have hne2 : ¬ gb = gx := (fun e => hne1 e.symm); have hne3 : ¬ gx = gp := (by have := blk_lt HP.out; omega); have hne4 : ¬ gp = gx := (fun e => hne3 e.symm); have hx0 : w6.cell? ⟨gx, 0, none⟩ = some (.int .i64 0) := (blk_cell hbox 0).trans rfl; have hx1 : w6.cell? ⟨gx, 1, none⟩ = some .nilFunc := (blk_cell hbox 1).trans rfl; have hf0 := blk_frozen hbox 0; have hf1 := blk_frozen hbox 1; replace hk0 := pw_cell_below hb hk0; replace hk1 := pw_cell_below hb hk1; replace hq0 := pw_cell_below hb hq0; replace hq1 := pw_cell_below hb hq1; replace hq2 := pw_cell_below hb hq2; replace hq3 := pw_cell_below hb hq3; replace hq4 := pw_cell_below hb hq4; clear hb hbox hgx) | (go_at_call 143; refine (part_lit1 A0_0 A0_1 A0_2 A0_3 A0_4 l0_0.length l0_1.length l0_2.length l0_3.length l0_4.length c0_0 c0_1 c0_2 c0_3 c0_4 _).mono ?_; rintro e w7 ⟨rfl, hb⟩; have HB7 := Aside0.mk (below_step (below_set (below_set HB6.out GEX.out) GEX.out) hb); have HK7 := Aside0.mk (blk_below (blk_far (blk_far HK6.out hne2 _) hne2 _) hb); have HP7 := Aside0.mk (blk_below (blk_far (blk_far HP6.out hne4 _) hne4 _) hb); clear hb) | (go_at_call 44; refine (prog_Check.calls k A0_1 c0_1 l0_1 A1 c1 l1 A2 c2 l2 A3 c3 l3 _ _ (Kd.C_below HR0_1.out HB7.out) HC0_1.out (Kd.C_below HR1.out HB7.out) HC1.out (Kd.C_below HR2.out HB7.out) HC2.out (Kd.C_below HR3.out HB7.out) HC3.out HE.out (UT.below HT0.out HB7.out)).mono ?_; rintro e w8 ⟨rfl, hb⟩; have HB8 := Aside0.mk (below_step HB7.out hb); have HK8 := Aside0.mk (blk_below HK7.out hb); have HP8 := Aside0.mk (blk_below HP7.out hb); clear hb))
        go_roundg 3
        case measure => have := HI.out; omega
        case rel => exact ⟨2, by first | rfl | (simp; done), ⟨by omega, by omega⟩, HNX, HK8, HP8, HB8⟩
      subst hc
      have ce : (r != 0) = true := bne_iff_ne.mpr hz
      clear hz
      go_wp2_with (first | ((with_reducible refine gate_dst (N := 10) rfl ?_); refine box_event ?hg (N := 10) ?hd (cs := #[.int .i64 0, .nilFunc]) (t := 156) ?hr ?_; (case hd => rfl); (case hg => rfl); (case hr => first | (go_simp; done) | (go_simp; rfl)); intro gx hgx w6 hbox hb; have HB6 := Aside0.mk (below_step HB.out hb); have HK6 := Aside0.mk (blk_below HK.out hb); have HP6 := Aside0.mk (blk_below HP.out hb); have GEX := Aside0.mk (show w.heap.size ≤ gx by rw [hgx]; exact below_size HB.out); have HX6 := Aside0.mk hbox; have hne1 : ¬ gx = gb := (by have := blk_lt HK.out; omega); have hne2 : ¬ gb = gx := (fun e => hne1 e.symm); have hne3 : ¬ gx = gp := (by have := blk_lt HP.out; omega); have hne4 : ¬ gp = gx := (fun e => hne3 e.symm); have hx0 : w6.cell? ⟨gx, 0, none⟩ = some (.int .i64 0) := (blk_cell hbox 0).trans rfl; have hx1 : w6.cell? ⟨gx, 1, none⟩ = some .nilFunc := (blk_cell hbox 1).trans rfl; have hf0 := blk_frozen hbox 0; have hf1 := blk_frozen hbox 1; replace hk0 := pw_cell_below hb hk0; replace hk1 := pw_cell_below hb hk1; replace hq0 := pw_cell_below hb hq0; replace hq1 := pw_cell_below hb hq1; replace hq2 := pw_cell_below hb hq2; replace hq3 := pw_cell_below hb hq3; replace hq4 := pw_cell_below hb hq4; clear hb hbox hgx) | (go_at_call 143; refine (part_lit1 A0_0 A0_1 A0_2 A0_3 A0_4 l0_0.length l0_1.length l0_2.length l0_3.length l0_4.length c0_0 c0_1 c0_2 c0_3 c0_4 _).mono ?_; rintro e w7 ⟨rfl, hb⟩; have HB7 := Aside0.mk (below_step (below_set (below_set HB6.out GEX.out) GEX.out) hb); have HK7 := Aside0.mk (blk_below (blk_far (blk_far HK6.out hne2 _) hne2 _) hb); have HP7 := Aside0.mk (blk_below (blk_far (blk_far HP6.out hne4 _) hne4 _) hb); clear hb) | (go_at_call 44; refine (prog_Check.calls k A0_1 c0_1 l0_1 A1 c1 l1 A2 c2 l2 A3 c3 l3 _ _ (Kd.C_below HR0_1.out HB7.out) HC0_1.out (Kd.C_below HR1.out HB7.out) HC1.out (Kd.C_below HR2.out HB7.out) HC2.out (Kd.C_below HR3.out HB7.out) HC3.out HE.out (UT.below HT0.out HB7.out)).mono ?_; rintro e w8 ⟨rfl, hb⟩; have HB8 := Aside0.mk (below_step HB7.out hb); have HK8 := Aside0.mk (blk_below HK7.out hb); have HP8 := Aside0.mk (blk_below HP7.out hb); clear hb))
      go_ret
      exact ⟨rfl, HB8.out⟩
    · have hk0 : wr.cell? ⟨gp, 4, none⟩ = some (.int .i64 6) := (blk_cell HP.out 4).trans rfl
      have hk1 : wr.cell? ⟨gp, 5, none⟩ = some (.func (.func 144) #[] #[]) := (blk_cell HP.out 5).trans rfl
      have hq0 : wr.cell? ⟨gb, 0, none⟩ = some (.slice A0_0 l0_0.length c0_0) := (blk_cell HK.out 0).trans rfl
      have hq1 : wr.cell? ⟨gb, 1, none⟩ = some (.slice A0_1 l0_1.length c0_1) := (blk_cell HK.out 1).trans rfl
      have hq2 : wr.cell? ⟨gb, 2, none⟩ = some (.slice A0_2 l0_2.length c0_2) := (blk_cell HK.out 2).trans rfl
      have hq3 : wr.cell? ⟨gb, 3, none⟩ = some (.slice A0_3 l0_3.length c0_3) := (blk_cell HK.out 3).trans rfl
      have hq4 : wr.cell? ⟨gb, 4, none⟩ = some (.slice A0_4 l0_4.length c0_4) := (blk_cell HK.out 4).trans rfl
      obtain ⟨ev, he, hc⟩ := phase_Check.all_cons (x := l0_2) (xs := [l0_3, l0_4]) HC.out
      have HE := Aside0.mk he
      clear he HC
      rcases hc with ⟨hz, hc⟩ | ⟨hz, hc⟩
      · subst hz
        have HNX := Aside0.mk hc
        clear hc
        go_wp2_with (first | ((with_reducible refine gate_dst (N := 10) rfl ?_); refine box_event ?hg (N := 10) ?hd (cs := #[.int .i64 0, .nilFunc]) (t := 156) ?hr ?_; (case hd => rfl); (case hg => rfl); (case hr => first | (go_simp; done) | (go_simp; rfl)); intro gx hgx w6 hbox hb; have HB6 := Aside0.mk (below_step HB.out hb); have HK6 := Aside0.mk (blk_below HK.out hb); have HP6 := Aside0.mk (blk_below HP.out hb); have GEX := Aside0.mk (show w.heap.size ≤ gx by rw [hgx]; exact below_size HB.out); have HX6 := Aside0.mk hbox; have hne1 : ¬ gx = gb := (by have := blk_lt HK.out; omega); have hne2 : ¬ gb = gx := (fun e => hne1 e.symm); have hne3 : ¬ gx = gp := (by have := blk_lt HP.out; omega); have hne4 : ¬ gp = gx := (fun e => hne3 e.symm); have hx0 : w6.cell? ⟨gx, 0, none⟩ = some (.int .i64 0) := (blk_cell hbox 0).trans rfl; have hx1 : w6.cell? ⟨gx, 1, none⟩ = some .nilFunc := (blk_cell hbox 1).trans rfl; have hf0 := blk_frozen hbox 0; have hf1 := blk_frozen hbox 1; replace hk0 := pw_cell_below hb hk0; replace hk1 := pw_cell_below hb hk1; replace hq0 := pw_cell_below hb hq0; replace hq1 := pw_cell_below hb hq1; replace hq2 := pw_cell_below hb hq2; replace hq3 := pw_cell_below hb hq3; replace hq4 := pw_cell_below hb hq4; clear hb hbox hgx) | (go_at_call 144; refine (part_lit2 A0_0 A0_1 A0_2 A0_3 A0_4 l0_0.length l0_1.length l0_2.length l0_3.length l0_4.length c0_0 c0_1 c0_2 c0_3 c0_4 _).mono ?_; rintro e w7 ⟨rfl, hb⟩; have HB7 := Aside0.mk (below_step (below_set (below_set HB6.out GEX.out) GEX.out) hb); have HK7 := Aside0.mk (blk_below (blk_far (blk_far HK6.out hne2 _) hne2 _) hb); have HP7 := Aside0.mk (blk_below (blk_far (blk_far HP6.out hne4 _) hne4 _) hb); clear hb) | (go_at_call 44; refine (prog_Check.calls k A0_2 c0_2 l0_2 A1 c1 l1 A2 c2 l2 A3 c3 l3 _ _ (Kd.C_below HR0_2.out HB7.out) HC0_2.out (Kd.C_below HR1.out HB7.out) HC1.out (Kd.C_below HR2.out HB7.out) HC2.out (Kd.C_below HR3.out HB7.out) HC3.out HE.out (UT.below HT0.out HB7.out)).mono ?_; rintro e w8 ⟨rfl, hb⟩; have HB8 := Aside0.mk (below_step HB7.out hb); have HK8 := Aside0.mk (blk_below HK7.out hb); have HP8 := Aside0.mk (blk_below HP7.out hb); clear hb))
        go_roundg 2
        case measure => have := HI.out; omega
        case rel => exact ⟨3, by first | rfl | (simp; done), ⟨by omega, by omega⟩, HNX, HK8, HP8, HB8⟩
      subst hc
      have ce : (r != 0) = true := bne_iff_ne.mpr hz
      clear hz
      go_wp2_with (first | ((with_reducible refine gate_dst (N := 10) rfl ?_); refine box_event ?hg (N := 10) ?hd (cs := #[.int .i64 0, .nilFunc]) (t := 156) ?hr ?_; (case hd => rfl); (case hg => rfl); (case hr => first | (go_simp; done) | (go_simp; rfl)); intro gx hgx w6 hbox hb; have HB6 := Aside0.mk (below_step HB.out hb); have HK6 := Aside0.mk (blk_below HK.out hb); have HP6 := Aside0.mk (blk_below HP.out hb); have GEX := Aside0.mk (show w.heap.size ≤ gx by rw [hgx]; exact below_size HB.out); have HX6 := Aside0.mk hbox; have hne1 : ¬ gx = gb := (by have := blk_lt HK.out; omega); have hne2 : ¬ gb = gx := (fun e => hne1 e.symm); have hne3 : ¬ gx = gp := (by have := blk_lt HP.out; omega); have hne4 : ¬ gp = gx := (fun e => hne3 e.symm); have hx0 : w6.cell? ⟨gx, 0, none⟩ = some (.int .i64 0) := (blk_cell hbox 0).trans rfl; have hx1 : w6.cell? ⟨gx, 1, none⟩ = some .nilFunc := (blk_cell hbox 1).trans rfl; have hf0 := blk_frozen hbox 0; have hf1 := blk_frozen hbox 1; replace hk0 := pw_cell_below hb hk0; replace hk1 := pw_cell_below hb hk1; replace hq0 := pw_cell_below hb hq0; replace hq1 := pw_cell_below hb hq1; replace hq2 := pw_cell_below hb hq2; replace hq3 := pw_cell_below hb hq3; replace hq4 := pw_cell_below hb hq4; clear hb hbox hgx) | (go_at_call 144; refine (part_lit2 A0_0 A0_1 A0_2 A0_3 A0_4 l0_0.length l0_1.length l0_2.length l0_3.length l0_4.length c0_0 c0_1 c0_2 c0_3 c0_4 _).mono ?_; rintro e w7 ⟨rfl, hb⟩; have HB7 := Aside0.mk (below_step (below_set (below_set HB6.out GEX.out) GEX.out) hb); have HK7 := Aside0.mk (blk_below (blk_far (blk_far HK6.out hne2 _) hne2 _) hb); have HP7 := Aside0.mk (blk_below (blk_far (blk_far HP6.out hne4 _) hne4 _) hb); clear hb) | (go_at_call 44; refine (prog_Check.calls k A0_2 c0_2 l0_2 A1 c1 l1 A2 c2 l2 A3 c3 l3 _ _ (Kd.C_below HR0_2.out HB7.out) HC0_2.out (Kd.C_below HR1.out HB7.out) HC1.out (Kd.C_below HR2.out HB7.out) HC2.out (Kd.C_below HR3.out HB7.out) HC3.out HE.out (UT.below HT0.out HB7.out)).mono ?_; rintro e w8 ⟨rfl, hb⟩; have HB8 := Aside0.mk (below_step HB7.out hb); have HK8 := Aside0.mk (blk_below HK7.out hb); have HP8 := Aside0.mk (blk_below HP7.out hb); clear hb))
      go_ret
      exact ⟨rfl, HB8.out⟩
    · have hk0 : wr.cell? ⟨gp, 6, none⟩ = some (.int .i64 7) := (blk_cell HP.out 6).trans rfl
      have hk1 : wr.cell? ⟨gp, 7, none⟩ = some (.func (.func 145) #[] #[]) := (blk_cell HP.out 7).trans rfl
      have hq0 : wr.cell? ⟨gb, 0, none⟩ = some (.slice A0_0 l0_0.length c0_0) := (blk_cell HK.out 0).trans rfl
      have hq1 : wr.cell? ⟨gb, 1, none⟩ = some (.slice A0_1 l0_1.length c0_1) := (blk_cell HK.out 1).trans rfl
      have hq2 : wr.cell? ⟨gb, 2, none⟩ = some (.slice A0_2 l0_2.length c0_2) := (blk_cell HK.out 2).trans rfl
      have hq3 : wr.cell? ⟨gb, 3, none⟩ = some (.slice A0_3 l0_3.length c0_3) := (blk_cell HK.out 3).trans rfl
      have hq4 : wr.cell? ⟨gb, 4, none⟩ = some (.slice A0_4 l0_4.length c0_4) := (blk_cell HK.out 4).trans rfl
      obtain ⟨ev, he, hc⟩ := phase_Check.all_cons (x := l0_3) (xs := [l0_4]) HC.out
      have HE := Aside0.mk he
      clear he HC
      rcases hc with ⟨hz, hc⟩ | ⟨hz, hc⟩
      · subst hz
        have HNX := Aside0.mk hc
        clear hc
        go_wp2_with (first | ((with_reducible refine gate_dst (N := 10) rfl ?_); refine box_event ?hg (N := 10) ?hd (cs := #[.int .i64 0, .nilFunc]) (t := 156) ?hr ?_; (case hd => rfl); (case hg => rfl); (case hr => first | (go_simp; done) | (go_simp; rfl)); intro gx hgx w6 hbox hb; have HB6 := Aside0.mk (below_step HB.out hb); have HK6 := Aside0.mk (blk_below HK.out hb); have HP6 := Aside0.mk (blk_below HP.out hb); have GEX := Aside0.mk (show w.heap.size ≤ gx by rw [hgx]; exact below_size HB.out); have HX6 := Aside0.mk hbox; have hne1 : ¬ gx = gb := (by have := blk_lt HK.out; omega); have hne2 : ¬ gb = gx := (fun e => hne1 e.symm); have hne3 : ¬ gx = gp := (by have := blk_lt HP.out; omega); have hne4 : ¬ gp = gx := (fun e => hne3 e.symm); have hx0 : w6.cell? ⟨gx, 0, none⟩ = some (.int .i64 0) := (blk_cell hbox 0).trans rfl; have hx1 : w6.cell? ⟨gx, 1, none⟩ = some .nilFunc := (blk_cell hbox 1).trans rfl; have hf0 := blk_frozen hbox 0; have hf1 := blk_frozen hbox 1; replace hk0 := pw_cell_below hb hk0; replace hk1 := pw_cell_below hb hk1; replace hq0 := pw_cell_below hb hq0; replace hq1 := pw_cell_below hb hq1; replace hq2 := pw_cell_below hb hq2; replace hq3 := pw_cell_below hb hq3; replace hq4 := pw_cell_below hb hq4; clear hb hbox hgx) | (go_at_call 145; refine (part_lit3 A0_0 A0_1 A0_2 A0_3 A0_4 l0_0.length l0_1.length l0_2.length l0_3.length l0_4.length c0_0 c0_1 c0_2 c0_3 c0_4 _).mono ?_; rintro e w7 ⟨rfl, hb⟩; have HB7 := Aside0.mk (below_step (below_set (below_set HB6.out GEX.out) GEX.out) hb); have HK7 := Aside0.mk (blk_below (blk_far (blk_far HK6.out hne2 _) hne2 _) hb); have HP7 := Aside0.mk (blk_below (blk_far (blk_far HP6.out hne4 _) hne4 _) hb); clear hb) | (go_at_call 44; refine (prog_Check.calls k A0_3 c0_3 l0_3 A1 c1 l1 A2 c2 l2 A3 c3 l3 _ _ (Kd.C_below HR0_3.out HB7.out) HC0_3.out (Kd.C_below HR1.out HB7.out) HC1.out (Kd.C_below HR2.out HB7.out) HC2.out (Kd.C_below HR3.out HB7.out) HC3.out HE.out (UT.below HT0.out HB7.out)).mono ?_; rintro e w8 ⟨rfl, hb⟩; have HB8 := Aside0.mk (below_step HB7.out hb); have HK8 := Aside0.mk (blk_below HK7.out hb); have HP8 := Aside0.mk (blk_below HP7.out hb); clear hb))
        go_roundg 1
        case measure => have := HI.out; omega
        case rel => exact ⟨4, by first | rfl | (simp; done), ⟨by omega, by omega⟩, HNX, HK8, HP8, HB8⟩
      subst hc
      have ce : (r != 0) = true := bne_iff_ne.mpr hz
      clear hz
      go_wp2_with (first | ((with_reducible refine gate_dst (N := 10) rfl ?_); refine box_event ?hg (N := 10) ?hd (cs := #[.int .i64 0, .nilFunc]) (t := 156) ?hr ?_; (case hd => rfl); (case hg => rfl); (case hr => first | (go_simp; done) | (go_simp; rfl)); intro gx hgx w6 hbox hb; have HB6 := Aside0.mk (below_step HB.out hb); have HK6 := Aside0.mk (blk_below HK.out hb); have HP6 := Aside0.mk (blk_below HP.out hb); have GEX := Aside0.mk (show w.heap.size ≤ gx by rw [hgx]; exact below_size HB.out); have HX6 := Aside0.mk hbox; have hne1 : ¬ gx = gb := (by have := blk_lt HK.out; omega); have hne2 : ¬ gb = gx := (fun e => hne1 e.symm); have hne3 : ¬ gx = gp := (by have := blk_lt HP.out; omega); have hne4 : ¬ gp = gx := (fun e => hne3 e.symm); have hx0 : w6.cell? ⟨gx, 0, none⟩ = some (.int .i64 0) := (blk_cell hbox 0).trans rfl; have hx1 : w6.cell? ⟨gx, 1, none⟩ = some .nilFunc := (blk_cell hbox 1).trans rfl; have hf0 := blk_frozen hbox 0; have hf1 := blk_frozen hbox 1; replace hk0 := pw_cell_below hb hk0; replace hk1 := pw_cell_below hb hk1; replace hq0 := pw_cell_below hb hq0; replace hq1 := pw_cell_below hb hq1; replace hq2 := pw_cell_below hb hq2; replace hq3 := pw_cell_below hb hq3; replace hq4 := pw_cell_below hb hq4; clear hb hbox hgx) | (go_at_call 145; refine (part_lit3 A0_0 A0_1 A0_2 A0_3 A0_4 l0_0.length l0_1.length l0_2.length l0_3.length l0_4.length c0_0 c0_1 c0_2 c0_3 c0_4 _).mono ?_; rintro e w7 ⟨rfl, hb⟩; have HB7 := Aside0.mk (below_step (below_set (below_set HB6.out GEX.out) GEX.out) hb); have HK7 := Aside0.mk (blk_below (blk_far (blk_far HK6.out hne2 _) hne2 _) hb); have HP7 := Aside0.mk (blk_below (blk_far (blk_far HP6.out hne4 _) hne4 _) hb); clear hb) | (go_at_call 44; refine (prog_Check.calls k A0_3 c0_3 l0_3 A1 c1 l1 A2 c2 l2 A3 c3 l3 _ _ (Kd.C_below HR0_3.out HB7.out) HC0_3.out (Kd.C_below HR1.out HB7.out) HC1.out (Kd.C_below HR2.out HB7.out) HC2.out (Kd.C_below HR3.out HB7.out) HC3.out HE.out (UT.below HT0.out HB7.out)).mono ?_; rintro e w8 ⟨rfl, hb⟩; have HB8 := Aside0.mk (below_step HB7.out hb); have HK8 := Aside0.mk (blk_below HK7.out hb); have HP8 := Aside0.mk (blk_below HP7.out hb); clear hb))
      go_ret
      exact ⟨rfl, HB8.out⟩
    · have hk0 : wr.cell? ⟨gp, 8, none⟩ = some (.int .i64 9) := (blk_cell HP.out 8).trans rfl
      have hk1 : wr.cell? ⟨gp, 9, none⟩ = some (.func (.func 146) #[] #[]) := (blk_cell HP.out 9).trans rfl
      have hq0 : wr.cell? ⟨gb, 0, none⟩ = some (.slice A0_0 l0_0.length c0_0) := (blk_cell HK.out 0).trans rfl
      have hq1 : wr.cell? ⟨gb, 1, none⟩ = some (.slice A0_1 l0_1.length c0_1) := (blk_cell HK.out 1).trans rfl
      have hq2 : wr.cell? ⟨gb, 2, none⟩ = some (.slice A0_2 l0_2.length c0_2) := (blk_cell HK.out 2).trans rfl
      have hq3 : wr.cell? ⟨gb, 3, none⟩ = some (.slice A0_3 l0_3.length c0_3) := (blk_cell HK.out 3).trans rfl
      have hq4 : wr.cell? ⟨gb, 4, none⟩ = some (.slice A0_4 l0_4.length c0_4) := (blk_cell HK.out 4).trans rfl
      obtain ⟨ev, he, hc⟩ := phase_Check.all_cons (x := l0_4) (xs := []) HC.out
      have HE := Aside0.mk he
      clear he HC
      rcases hc with ⟨hz, hc⟩ | ⟨hz, hc⟩
      · subst hz
        have HNX := Aside0.mk hc
        clear hc
        go_wp2_with (first | ((with_reducible refine gate_dst (N := 10) rfl ?_); refine box_event ?hg (N := 10) ?hd (cs := #[.int .i64 0, .nilFunc]) (t := 156) ?hr ?_; (case hd => rfl); (case hg => rfl); (case hr => first | (go_simp; done) | (go_simp; rfl)); intro gx hgx w6 hbox hb; have HB6 := Aside0.mk (below_step HB.out hb); have HK6 := Aside0.mk (blk_below HK.out hb); have HP6 := Aside0.mk (blk_below HP.out hb); have GEX := Aside0.mk (show w.heap.size ≤ gx by rw [hgx]; exact below_size HB.out); have HX6 := Aside0.mk hbox; have hne1 : ¬ gx = gb := (by have := blk_lt HK.out; omega); have hne2 : ¬ gb = gx := (fun e => hne1 e.symm); have hne3 : ¬ gx = gp := (by have := blk_lt HP.out; omega); have hne4 : ¬ gp = gx := (fun e => hne3 e.symm); have hx0 : w6.cell? ⟨gx, 0, none⟩ = some (.int .i64 0) := (blk_cell hbox 0).trans rfl; have hx1 : w6.cell? ⟨gx, 1, none⟩ = some .nilFunc := (blk_cell hbox 1).trans rfl; have hf0 := blk_frozen hbox 0; have hf1 := blk_frozen hbox 1; replace hk0 := pw_cell_below hb hk0; replace hk1 := pw_cell_below hb hk1; replace hq0 := pw_cell_below hb hq0; replace hq1 := pw_cell_below hb hq1; replace hq2 := pw_cell_below hb hq2; replace hq3 := pw_cell_below hb hq3; replace hq4 := pw_cell_below hb hq4; clear hb hbox hgx) | (go_at_call 146; refine (part_lit4 A0_0 A0_1 A0_2 A0_3 A0_4 l0_0.length l0_1.length l0_2.length l0_3.length l0_4.length c0_0 c0_1 c0_2 c0_3 c0_4 _).mono ?_; rintro e w7 ⟨rfl, hb⟩; have HB7 := Aside0.mk (below_step (below_set (below_set HB6.out GEX.out) GEX.out) hb); have HK7 := Aside0.mk (blk_below (blk_far (blk_far HK6.out hne2 _) hne2 _) hb); have HP7 := Aside0.mk (blk_below (blk_far (blk_far HP6.out hne4 _) hne4 _) hb); clear hb) | (go_at_call 44; refine (prog_Check.calls k A0_4 c0_4 l0_4 A1 c1 l1 A2 c2 l2 A3 c3 l3 _ _ (Kd.C_below HR0_4.out HB7.out) HC0_4.out (Kd.C_below HR1.out HB7.out) HC1.out (Kd.C_below HR2.out HB7.out) HC2.out (Kd.C_below HR3.out HB7.out) HC3.out HE.out (UT.below HT0.out HB7.out)).mono ?_; rintro e w8 ⟨rfl, hb⟩; have HB8 := Aside0.mk (below_step HB7.out hb); have HK8 := Aside0.mk (blk_below HK7.out hb); have HP8 := Aside0.mk (blk_below HP7.out hb); clear hb))
        go_roundg 0
        case measure => have := HI.out; omega
        case rel => exact ⟨5, by first | rfl | (simp; done), ⟨by omega, by omega⟩, HNX, HK8, HP8, HB8⟩
      subst hc
      have ce : (r != 0) = true := bne_iff_ne.mpr hz
      clear hz
      go_wp2_with (first | ((with_reducible refine gate_dst (N := 10) rfl ?_); refine box_event ?hg (N := 10) ?hd (cs := #[.int .i64 0, .nilFunc]) (t := 156) ?hr ?_; (case hd => rfl); (case hg => rfl); (case hr => first | (go_simp; done) | (go_simp; rfl)); intro gx hgx w6 hbox hb; have HB6 := Aside0.mk (below_step HB.out hb); have HK6 := Aside0.mk (blk_below HK.out hb); have HP6 := Aside0.mk (blk_below HP.out hb); have GEX := Aside0.mk (show w.heap.size ≤ gx by rw [hgx]; exact below_size HB.out); have HX6 := Aside0.mk hbox; have hne1 : ¬ gx = gb := (by have := blk_lt HK.out; omega); have hne2 : ¬ gb = gx := (fun e => hne1 e.symm); have hne3 : ¬ gx = gp := (by have := blk_lt HP.out; omega); have hne4 : ¬ gp = gx := (fun e => hne3 e.symm); have hx0 : w6.cell? ⟨gx, 0, none⟩ = some (.int .i64 0) := (blk_cell hbox 0).trans rfl; have hx1 : w6.cell? ⟨gx, 1, none⟩ = some .nilFunc := (blk_cell hbox 1).trans rfl; have hf0 := blk_frozen hbox 0; have hf1 := blk_frozen hbox 1; replace hk0 := pw_cell_below hb hk0; replace hk1 := pw_cell_below hb hk1; replace hq0 := pw_cell_below hb hq0; replace hq1 := pw_cell_below hb hq1; replace hq2 := pw_cell_below hb hq2; replace hq3 := pw_cell_below hb hq3; replace hq4 := pw_cell_below hb hq4; clear hb hbox hgx) | (go_at_call 146; refine (part_lit4 A0_0 A0_1 A0_2 A0_3 A0_4 l0_0.length l0_1.length l0_2.length l0_3.length l0_4.length c0_0 c0_1 c0_2 c0_3 c0_4 _).mono ?_; rintro e w7 ⟨rfl, hb⟩; have HB7 := Aside0.mk (below_step (below_set (below_set HB6.out GEX.out) GEX.out) hb); have HK7 := Aside0.mk (blk_below (blk_far (blk_far HK6.out hne2 _) hne2 _) hb); have HP7 := Aside0.mk (blk_below (blk_far (blk_far HP6.out hne4 _) hne4 _) hb); clear hb) | (go_at_call 44; refine (prog_Check.calls k A0_4 c0_4 l0_4 A1 c1 l1 A2 c2 l2 A3 c3 l3 _ _ (Kd.C_below HR0_4.out HB7.out) HC0_4.out (Kd.C_below HR1.out HB7.out) HC1.out (Kd.C_below HR2.out HB7.out) HC2.out (Kd.C_below HR3.out HB7.out) HC3.out HE.out (UT.below HT0.out HB7.out)).mono ?_; rintro e w8 ⟨rfl, hb⟩; have HB8 := Aside0.mk (below_step HB7.out hb); have HK8 := Aside0.mk (blk_below HK7.out hb); have HP8 := Aside0.mk (blk_below HP7.out hb); clear hb))
      go_ret
      exact ⟨rfl, HB8.out⟩
    have HH : Aside0 (phase_Check.ends k [l0_1, l0_2, l0_3, l0_4] = some r) := ⟨HC.out⟩
    clear HC HP
    go_wp2_with (first | (go_at_call 110; refine (parts_calls _).mono ?_; rintro e w5 ⟨gp2, rfl, hge, hbk, hb⟩; have HK5 := Aside0.mk (blk_below HK.out hb); have HP5 := Aside0.mk hbk; have HB5 := Aside0.mk (below_step HB.out hb); clear hb hbk hge))
    go_loopg [36] 4 (fun kq v36 w' => ∃ i : Nat, v36 = .int .i64 (i : Int) ∧ Aside0 (i ≤ 4 ∧ kq + i = 4) ∧ Aside0 (phase_Check.ends k ([l0_1, l0_2, l0_3, l0_4].drop i) = some r) ∧ Aside0 (w'.heap[gb]? = some (.cells #[.slice A0_0 l0_0.length c0_0, .slice A0_1 l0_1.length c0_1, .slice A0_2 l0_2.length c0_2, .slice A0_3 l0_3.length c0_3, .slice A0_4 l0_4.length c0_4] 80 (0, 0))) ∧ Aside0 (w'.heap[gp2]? = some (.cells partCells 156 (0, 0))) ∧ Aside0 (Below w.heap.size w w'))
    case atStart => exact ⟨0, rfl, ⟨by omega, by omega⟩, HH, HK5, HP5, HB5⟩
    case round =>
      clear HK5 HP5 HB5 HK HB HH HI
      obtain ⟨i, rfl, HI, HC, HK, HP, HB⟩ := hrel
      have c : i = 0 ∨ i = 1 ∨ i = 2 ∨ i = 3 ∨ i = 4 := by have := HI.out; omega
      rcases c with rfl | rfl | rfl | rfl | rfl
      · have hk0 : wr.cell? ⟨gp2, 2, none⟩ = some (.int .i64 4) := (blk_cell HP.out 2).trans rfl
        have hk1 : wr.cell? ⟨gp2, 3, none⟩ = some (.func (.func 143) #[] #[]) := (blk_cell HP.out 3).trans rfl
        have hq0 : wr.cell? ⟨gb, 0, none⟩ = some (.slice A0_0 l0_0.length c0_0) := (blk_cell HK.out 0).trans rfl
        have hq1 : wr.cell? ⟨gb, 1, none⟩ = some (.slice A0_1 l0_1.length c0_1) := (blk_cell HK.out 1).trans rfl
        have hq2 : wr.cell? ⟨gb, 2, none⟩ = some (.slice A0_2 l0_2.length c0_2) := (blk_cell HK.out 2).trans rfl
        have hq3 : wr.cell? ⟨gb, 3, none⟩ = some (.slice A0_3 l0_3.length c0_3) := (blk_cell HK.out 3).trans rfl
        have hq4 : wr.cell? ⟨gb, 4, none⟩ = some (.slice A0_4 l0_4.length c0_4) := (blk_cell HK.out 4).trans rfl
        have hc := phase_Check.ends_cons (x := l0_1) (xs := [l0_2, l0_3, l0_4]) HC.out
        clear HC
        rcases hc with ⟨hw, hr⟩ | ⟨hw, t, ht, hc⟩
        · subst hr
          have HW := Aside0.mk hw
          clear hw
          go_wp2_with (first | ((with_reducible refine gate_dst (N := 13) rfl ?_); refine box_event ?hg (N := 13) ?hd (cs := #[.int .i64 0, .nilFunc]) (t := 156) ?hr ?_; (case hd => rfl); (case hg => rfl); (case hr => first | (go_simp; done) | (go_simp; rfl)); intro gx hgx w6 hbox hb; have HB6 := Aside0.mk (below_step HB.out hb); have HK6 := Aside0.mk (blk_below HK.out hb); have HP6 := Aside0.mk (blk_below HP.out hb); have GEX := Aside0.mk (show w.heap.size ≤ gx by rw [hgx]; exact below_size HB.out); have HX6 := Aside0.mk hbox; have hne1 : ¬ gx = gb := (by have := blk_lt HK.out; omega); have hne2 : ¬ gb = gx := (fun e => hne1 e.symm); have hne3 : ¬ gx = gp2 := (by have := blk_lt HP.out; omega); have hne4 : ¬ gp2 = gx := (fun e => hne3 e.symm); have hx0 : w6.cell? ⟨gx, 0, none⟩ = some (.int .i64 0) := (blk_cell hbox 0).trans rfl; have hx1 : w6.cell? ⟨gx, 1, none⟩ = some .nilFunc := (blk_cell hbox 1).trans rfl; have hf0 := blk_frozen hbox 0; have hf1 := blk_frozen hbox 1; replace hk0 := pw_cell_below hb hk0; replace hk1 := pw_cell_below hb hk1; replace hq0 := pw_cell_below hb hq0; replace hq1 := pw_cell_below hb hq1; replace hq2 := pw_cell_below hb hq2; replace hq3 := pw_cell_below hb hq3; replace hq4 := pw_cell_below hb hq4; clear hb hbox hgx) | (go_at_call 143; refine (part_lit1 A0_0 A0_1 A0_2 A0_3 A0_4 l0_0.length l0_1.length l0_2.length l0_3.length l0_4.length c0_0 c0_1 c0_2 c0_3 c0_4 _).mono ?_; rintro e w7 ⟨rfl, hb⟩; have HB7 := Aside0.mk (below_step (below_set (below_set HB6.out GEX.out) GEX.out) hb); have HK7 := Aside0.mk (blk_below (blk_far (blk_far HK6.out hne2 _) hne2 _) hb); have HP7 := Aside0.mk (blk_below (blk_far (blk_far HP6.out hne4 _) hne4 _) hb); clear hb) | (go_at_call 111; refine (ContainsFunc_waits A0_1 c0_1 l0_1 true _ (Kd.C_below HR0_1.out HB7.out) HC0_1.out HW.out).mono ?_; rintro e w8 ⟨rfl, hb⟩; have HB8 := Aside0.mk (below_step HB7.out hb); have HK8 := Aside0.mk (blk_below HK7.out hb); have HP8 := Aside0.mk (blk_below HP7.out hb); clear hb))
          go_ret
          exact ⟨rfl, HB8.out⟩
        have HW := Aside0.mk hw
        have HE := Aside0.mk ht
        clear hw ht
        rcases hc with ⟨hz, hc⟩ | ⟨hz, hc⟩
        · subst hz
          have HNX := Aside0.mk hc
          clear hc
          go_wp2_with (first | ((with_reducible refine gate_dst (N := 13) rfl ?_); refine box_event ?hg (N := 13) ?hd (cs := #[.int .i64 0, .nilFunc]) (t := 156) ?hr ?_; (case hd => rfl); (case hg => rfl); (case hr => first | (go_simp; done) | (go_simp; rfl)); intro gx hgx w6 hbox hb; have HB6 := Aside0.mk (below_step HB.out hb); have HK6 := Aside0.mk (blk_below HK.out hb); have HP6 := Aside0.mk (blk_below HP.out hb); have GEX := Aside0.mk (show w.heap.size ≤ gx by rw [hgx]; exact below_size HB.out); have HX6 := Aside0.mk hbox; have hne1 : ¬ gx = gb := (by have := blk_lt HK.out; omega); have hne2 : ¬ gb = gx := (fun e => hne1 e.symm); have hne3 : ¬ gx = gp2 := (by have := blk_lt HP.out; omega); have hne4 : ¬ gp2 = gx := (fun e => hne3 e.symm); have hx0 : w6.cell? ⟨gx, 0, none⟩ = some (.int .i64 0) := (blk_cell hbox 0).trans rfl; have hx1 : w6.cell? ⟨gx, 1, none⟩ = some .nilFunc := (blk_cell hbox 1).trans rfl; have hf0 := blk_frozen hbox 0; have hf1 := blk_frozen hbox 1; replace hk0 := pw_cell_below hb hk0; replace hk1 := pw_cell_below hb hk1; replace hq0 := pw_cell_below hb hq0; replace hq1 := pw_cell_below hb hq1; replace hq2 := pw_cell_below hb hq2; replace hq3 := pw_cell_below hb hq3; replace hq4 := pw_cell_below hb hq4; clear hb hbox hgx) | (first | (go_at_call 143; have := HB8; refine (part_lit1 A0_0 A0_1 A0_2 A0_3 A0_4 l0_0.length l0_1.length l0_2.length l0_3.length l0_4.length c0_0 c0_1 c0_2 c0_3 c0_4 _).mono ?_; rintro e w9 ⟨rfl, hb⟩; have HB9 := Aside0.mk (below_step HB8.out hb); have HK9 := Aside0.mk (blk_below HK8.out hb); have HP9 := Aside0.mk (blk_below HP8.out hb); clear hb) | (go_at_call 143; refine (part_lit1 A0_0 A0_1 A0_2 A0_3 A0_4 l0_0.length l0_1.length l0_2.length l0_3.length l0_4.length c0_0 c0_1 c0_2 c0_3 c0_4 _).mono ?_; rintro e w7 ⟨rfl, hb⟩; have HB7 := Aside0.mk (below_step (below_set (below_set HB6.out GEX.out) GEX.out) hb); have HK7 := Aside0.mk (blk_below (blk_far (blk_far HK6.out hne2 _) hne2 _) hb); have HP7 := Aside0.mk (blk_below (blk_far (blk_far HP6.out hne4 _) hne4 _) hb); have HX7 := Aside0.mk (show w7.cell? ⟨gx, 1, none⟩ = some (.func (.func 143) #[] #[]) from pw_cell_below hb (by go_simp; done)); clear hb)) | (go_at_call 111; refine (ContainsFunc_waits A0_1 c0_1 l0_1 false _ (Kd.C_below HR0_1.out HB7.out) HC0_1.out HW.out).mono ?_; rintro e w8 ⟨rfl, hb⟩; have HB8 := Aside0.mk (below_step HB7.out hb); have HK8 := Aside0.mk (blk_below HK7.out hb); have HP8 := Aside0.mk (blk_below HP7.out hb); have hx8 := pw_cell_below hb HX7.out; have hy0 : w8.cell? ⟨gb, 0, none⟩ = some (.slice A0_0 l0_0.length c0_0) := (blk_cell HK8.out 0).trans rfl; have hy1 : w8.cell? ⟨gb, 1, none⟩ = some (.slice A0_1 l0_1.length c0_1) := (blk_cell HK8.out 1).trans rfl; have hy2 : w8.cell? ⟨gb, 2, none⟩ = some (.slice A0_2 l0_2.length c0_2) := (blk_cell HK8.out 2).trans rfl; have hy3 : w8.cell? ⟨gb, 3, none⟩ = some (.slice A0_3 l0_3.length c0_3) := (blk_cell HK8.out 3).trans rfl; have hy4 : w8.cell? ⟨gb, 4, none⟩ = some (.slice A0_4 l0_4.length c0_4) := (blk_cell HK8.out 4).trans rfl; clear hb) | (go_at_call 46; refine (prog_Ends.calls k A0_1 c0_1 l0_1 _ _ (Kd.C_below HR0_1.out HB9.out) HC0_1.out HE.out).mono ?_; rintro e w10 ⟨rfl, hb⟩; have HB10 := Aside0.mk (below_step HB9.out hb); have HK10 := Aside0.mk (blk_below HK9.out hb); have HP10 := Aside0.mk (blk_below HP9.out hb); clear hb))
          go_roundg 3
          case measure => have := HI.out; omega
          case rel => exact ⟨1, by first | rfl | (simp; done), ⟨by omega, by omega⟩, HNX, HK10, HP10, HB10⟩
        subst hz
        subst hc
        go_wp2_with (first | ((with_reducible refine gate_dst (N := 13) rfl ?_); refine box_event ?hg (N := 13) ?hd (cs := #[.int .i64 0, .nilFunc]) (t := 156) ?hr ?_; (case hd => rfl); (case hg => rfl); (case hr => first | (go_simp; done) | (go_simp; rfl)); intro gx hgx w6 hbox hb; have HB6 := Aside0.mk (below_step HB.out hb); have HK6 := Aside0.mk (blk_below HK.out hb); have HP6 := Aside0.mk (blk_below HP.out hb); have GEX := Aside0.mk (show w.heap.size ≤ gx by rw [hgx]; exact below_size HB.out); have HX6 := Aside0.mk hbox; have hne1 : ¬ gx = gb := (by have := blk_lt HK.out; omega); have hne2 : ¬ gb = gx := (fun e => hne1 e.symm); have hne3 : ¬ gx = gp2 := (by have := blk_lt HP.out; omega); have hne4 : ¬ gp2 = gx := (fun e => hne3 e.symm); have hx0 : w6.cell? ⟨gx, 0, none⟩ = some (.int .i64 0) := (blk_cell hbox 0).trans rfl; have hx1 : w6.cell? ⟨gx, 1, none⟩ = some .nilFunc := (blk_cell hbox 1).trans rfl; have hf0 := blk_frozen hbox 0; have hf1 := blk_frozen hbox 1; replace hk0 := pw_cell_below hb hk0; replace hk1 := pw_cell_below hb hk1; replace hq0 := pw_cell_below hb hq0; replace hq1 := pw_cell_below hb hq1; replace hq2 := pw_cell_below hb hq2; replace hq3 := pw_cell_below hb hq3; replace hq4 := pw_cell_below hb hq4; clear hb hbox hgx) | (first | (go_at_call 143; have := HB8; refine (part_lit1 A0_0 A0_1 A0_2 A0_3 A0_4 l0_0.length l0_1.length l0_2.length l0_3.length l0_4.length c0_0 c0_1 c0_2 c0_3 c0_4 _).mono ?_; rintro e w9 ⟨rfl, hb⟩; have HB9 := Aside0.mk (below_step HB8.out hb); have HK9 := Aside0.mk (blk_below HK8.out hb); have HP9 := Aside0.mk (blk_below HP8.out hb); clear hb) | (go_at_call 143; refine (part_lit1 A0_0 A0_1 A0_2 A0_3 A0_4 l0_0.length l0_1.length l0_2.length l0_3.length l0_4.length c0_0 c0_1 c0_2 c0_3 c0_4 _).mono ?_; rintro e w7 ⟨rfl, hb⟩; have HB7 := Aside0.mk (below_step (below_set (below_set HB6.out GEX.out) GEX.out) hb); have HK7 := Aside0.mk (blk_below (blk_far (blk_far HK6.out hne2 _) hne2 _) hb); have HP7 := Aside0.mk (blk_below (blk_far (blk_far HP6.out hne4 _) hne4 _) hb); have HX7 := Aside0.mk (show w7.cell? ⟨gx, 1, none⟩ = some (.func (.func 143) #[] #[]) from pw_cell_below hb (by go_simp; done)); clear hb)) | (go_at_call 111; refine (ContainsFunc_waits A0_1 c0_1 l0_1 false _ (Kd.C_below HR0_1.out HB7.out) HC0_1.out HW.out).mono ?_; rintro e w8 ⟨rfl, hb⟩; have HB8 := Aside0.mk (below_step HB7.out hb); have HK8 := Aside0.mk (blk_below HK7.out hb); have HP8 := Aside0.mk (blk_below HP7.out hb); have hx8 := pw_cell_below hb HX7.out; have hy0 : w8.cell? ⟨gb, 0, none⟩ = some (.slice A0_0 l0_0.length c0_0) := (blk_cell HK8.out 0).trans rfl; have hy1 : w8.cell? ⟨gb, 1, none⟩ = some (.slice A0_1 l0_1.length c0_1) := (blk_cell HK8.out 1).trans rfl; have hy2 : w8.cell? ⟨gb, 2, none⟩ = some (.slice A0_2 l0_2.length c0_2) := (blk_cell HK8.out 2).trans rfl; have hy3 : w8.cell? ⟨gb, 3, none⟩ = some (.slice A0_3 l0_3.length c0_3) := (blk_cell HK8.out 3).trans rfl; have hy4 : w8.cell? ⟨gb, 4, none⟩ = some (.slice A0_4 l0_4.length c0_4) := (blk_cell HK8.out 4).trans rfl; clear hb) | (go_at_call 46; refine (prog_Ends.calls k A0_1 c0_1 l0_1 _ _ (Kd.C_below HR0_1.out HB9.out) HC0_1.out HE.out).mono ?_; rintro e w10 ⟨rfl, hb⟩; have HB10 := Aside0.mk (below_step HB9.out hb); have HK10 := Aside0.mk (blk_below HK9.out hb); have HP10 := Aside0.mk (blk_below HP9.out hb); clear hb))
        go_ret
        exact ⟨rfl, HB10.out⟩
      · have hk0 : wr.cell? ⟨gp2, 4, none⟩ = some (.int .i64 6) := (blk_cell HP.out 4).trans rfl
        have hk1 : wr.cell? ⟨gp2, 5, none⟩ = some (.func (.func 144) #[] #[]) := (blk_cell HP.out 5).trans rfl
        have hq0 : wr.cell? ⟨gb, 0, none⟩ = some (.slice A0_0 l0_0.length c0_0) := (blk_cell HK.out 0).trans rfl
        have hq1 : wr.cell? ⟨gb, 1, none⟩ = some (.slice A0_1 l0_1.length c0_1) := (blk_cell HK.out 1).trans rfl
        have hq2 : wr.cell? ⟨gb, 2, none⟩ = some (.slice A0_2 l0_2.length c0_2) := (blk_cell HK.out 2).trans rfl
        have hq3 : wr.cell? ⟨gb, 3, none⟩ = some (.slice A0_3 l0_3.length c0_3) := (blk_cell HK.out 3).trans rfl
        have hq4 : wr.cell? ⟨gb, 4, none⟩ = some (.slice A0_4 l0_4.length c0_4) := (blk_cell HK.out 4).trans rfl
        have hc := phase_Check.ends_cons (x := l0_2) (xs := [l0_3, l0_4]) HC.out
        clear HC
        rcases hc with ⟨hw, hr⟩ | ⟨hw, t, ht, hc⟩
        · subst hr
          have HW := Aside0.mk hw
          clear hw
          go_wp2_with (first | ((with_reducible refine gate_dst (N := 13) rfl ?_); refine box_event ?hg (N := 13) ?hd (cs := #[.int .i64 0, .nilFunc]) (t := 156) ?hr ?_; (case hd => rfl); (case hg => rfl); (case hr => first | (go_simp; done) | (go_simp; rfl)); intro gx hgx w6 hbox hb; have HB6 := Aside0.mk (below_step HB.out hb); have HK6 := Aside0.mk (blk_below HK.out hb); have HP6 := Aside0.mk (blk_below HP.out hb); have GEX := Aside0.mk (show w.heap.size ≤ gx by rw [hgx]; exact below_size HB.out); have HX6 := Aside0.mk hbox; have hne1 : ¬ gx = gb := (by have := blk_lt HK.out; omega); have hne2 : ¬ gb = gx := (fun e => hne1 e.symm); have hne3 : ¬ gx = gp2 := (by have := blk_lt HP.out; omega); have hne4 : ¬ gp2 = gx := (fun e => hne3 e.symm); have hx0 : w6.cell? ⟨gx, 0, none⟩ = some (.int .i64 0) := (blk_cell hbox 0).trans rfl; have hx1 : w6.cell? ⟨gx, 1, none⟩ = some .nilFunc := (blk_cell hbox 1).trans rfl; have hf0 := blk_frozen hbox 0; have hf1 := blk_frozen hbox 1; replace hk0 := pw_cell_below hb hk0; replace hk1 := pw_cell_below hb hk1; replace hq0 := pw_cell_below hb hq0; replace hq1 := pw_cell_below hb hq1; replace hq2 := pw_cell_below hb hq2; replace hq3 := pw_cell_below hb hq3; replace hq4 := pw_cell_below hb hq4; clear hb hbox hgx) | (go_at_call 144; refine (part_lit2 A0_0 A0_1 A0_2 A0_3 A0_4 l0_0.length l0_1.length l0_2.length l0_3.length l0_4.length c0_0 c0_1 c0_2 c0_3 c0_4 _).mono ?_; rintro e w7 ⟨rfl, hb⟩; have HB7 := Aside0.mk (below_step (below_set (below_set HB6.out GEX.out) GEX.out) hb); have HK7 := Aside0.mk (blk_below (blk_far (blk_far HK6.out hne2 _) hne2 _) hb); have HP7 := Aside0.mk (blk_below (blk_far (blk_far HP6.out hne4 _) hne4 _) hb); clear hb) | (go_at_call 111; refine (ContainsFunc_waits A0_2 c0_2 l0_2 true _ (Kd.C_below HR0_2.out HB7.out) HC0_2.out HW.out).mono ?_; rintro e w8 ⟨rfl, hb⟩; have HB8 := Aside0.mk (below_step HB7.out hb); have HK8 := Aside0.mk (blk_below HK7.out hb); have HP8 := Aside0.mk (blk_below HP7.out hb); clear hb))
          go_ret
          exact ⟨rfl, HB8.out⟩
        have HW := Aside0.mk hw
        have HE := Aside0.mk ht
        clear hw ht
        rcases hc with ⟨hz, hc⟩ | ⟨hz, hc⟩
        · subst hz
          have HNX := Aside0.mk hc
          clear hc
          go_wp2_with (first | ((with_reducible refine gate_dst (N := 13) rfl ?_); refine box_event ?hg (N := 13) ?hd (cs := #[.int .i64 0, .nilFunc]) (t := 156) ?hr ?_; (case hd => rfl); (case hg => rfl); (case hr => first | (go_simp; done) | (go_simp; rfl)); intro gx hgx w6 hbox hb; have HB6 := Aside0.mk (below_step HB.out hb); have HK6 := Aside0.mk (blk_below HK.out hb); have HP6 := Aside0.mk (blk_below HP.out hb); have GEX := Aside0.mk (show w.heap.size ≤ gx by rw [hgx]; exact below_size HB.out); have HX6 := Aside0.mk hbox; have hne1 : ¬ gx = gb := (by have := blk_lt HK.out; omega); have hne2 : ¬ gb = gx := (fun e => hne1 e.symm); have hne3 : ¬ gx = gp2 := (by have := blk_lt HP.out; omega); have hne4 : ¬ gp2 = gx := (fun e => hne3 e.symm); have hx0 : w6.cell? ⟨gx, 0, none⟩ = some (.int .i64 0) := (blk_cell hbox 0).trans rfl; have hx1 : w6.cell? ⟨gx, 1, none⟩ = some .nilFunc := (blk_cell hbox 1).trans rfl; have hf0 := blk_frozen hbox 0; have hf1 := blk_frozen hbox 1; replace hk0 := pw_cell_below hb hk0; replace hk1 := pw_cell_below hb hk1; replace hq0 := pw_cell_below hb hq0; replace hq1 := pw_cell_below hb hq1; replace hq2 := pw_cell_below hb hq2; replace hq3 := pw_cell_below hb hq3; replace hq4 := pw_cell_below hb hq4; clear hb hbox hgx) | (first | (go_at_call 144; have := HB8; refine (part_lit2 A0_0 A0_1 A0_2 A0_3 A0_4 l0_0.length l0_1.length l0_2.length l0_3.length l0_4.length c0_0 c0_1 c0_2 c0_3 c0_4 _).mono ?_; rintro e w9 ⟨rfl, hb⟩; have HB9 := Aside0.mk (below_step HB8.out hb); have HK9 := Aside0.mk (blk_below HK8.out hb); have HP9 := Aside0.mk (blk_below HP8.out hb); clear hb) | (go_at_call 144; refine (part_lit2 A0_0 A0_1 A0_2 A0_3 A0_4 l0_0.length l0_1.length l0_2.length l0_3.length l0_4.length c0_0 c0_1 c0_2 c0_3 c0_4 _).mono ?_; rintro e w7 ⟨rfl, hb⟩; have HB7 := Aside0.mk (below_step (below_set (below_set HB6.out GEX.out) GEX.out) hb); have HK7 := Aside0.mk (blk_below (blk_far (blk_far HK6.out hne2 _) hne2 _) hb); have HP7 := Aside0.mk (blk_below (blk_far (blk_far HP6.out hne4 _) hne4 _) hb); have HX7 := Aside0.mk (show w7.cell? ⟨gx, 1, none⟩ = some (.func (.func 144) #[] #[]) from pw_cell_below hb (by go_simp; done)); clear hb)) | (go_at_call 111; refine (ContainsFunc_waits A0_2 c0_2 l0_2 false _ (Kd.C_below HR0_2.out HB7.out) HC0_2.out HW.out).mono ?_; rintro e w8 ⟨rfl, hb⟩; have HB8 := Aside0.mk (below_step HB7.out hb); have HK8 := Aside0.mk (blk_below HK7.out hb); have HP8 := Aside0.mk (blk_below HP7.out hb); have hx8 := pw_cell_below hb HX7.out; have hy0 : w8.cell? ⟨gb, 0, none⟩ = some (.slice A0_0 l0_0.length c0_0) := (blk_cell HK8.out 0).trans rfl; have hy1 : w8.cell? ⟨gb, 1, none⟩ = some (.slice A0_1 l0_1.length c0_1) := (blk_cell HK8.out 1).trans rfl; have hy2 : w8.cell? ⟨gb, 2, none⟩ = some (.slice A0_2 l0_2.length c0_2) := (blk_cell HK8.out 2).trans rfl; have hy3 : w8.cell? ⟨gb, 3, none⟩ = some (.slice A0_3 l0_3.length c0_3) := (blk_cell HK8.out 3).trans rfl; have hy4 : w8.cell? ⟨gb, 4, none⟩ = some (.slice A0_4 l0_4.length c0_4) := (blk_cell HK8.out 4).trans rfl; clear hb) | (go_at_call 46; refine (prog_Ends.calls k A0_2 c0_2 l0_2 _ _ (Kd.C_below HR0_2.out HB9.out) HC0_2.out HE.out).mono ?_; rintro e w10 ⟨rfl, hb⟩; have HB10 := Aside0.mk (below_step HB9.out hb); have HK10 := Aside0.mk (blk_below HK9.out hb); have HP10 := Aside0.mk (blk_below HP9.out hb); clear hb))
          go_roundg 2
          case measure => have := HI.out; omega
          case rel => exact ⟨2, by first | rfl | (simp; done), ⟨by omega, by omega⟩, HNX, HK10, HP10, HB10⟩
        subst hz
        subst hc
        go_wp2_with (first | ((with_reducible refine gate_dst (N := 13) rfl ?_); refine box_event ?hg (N := 13) ?hd (cs := #[.int .i64 0, .nilFunc]) (t := 156) ?hr ?_; (case hd => rfl); (case hg => rfl); (case hr => first | (go_simp; done) | (go_simp; rfl)); intro gx hgx w6 hbox hb; have HB6 := Aside0.mk (below_step HB.out hb); have HK6 := Aside0.mk (blk_below HK.out hb); have HP6 := Aside0.mk (blk_below HP.out hb); have GEX := Aside0.mk (show w.heap.size ≤ gx by rw [hgx]; exact below_size HB.out); have HX6 := Aside0.mk hbox; have hne1 : ¬ gx = gb := (by have := blk_lt HK.out; omega); have hne2 : ¬ gb = gx := (fun e => hne1 e.symm); have hne3 : ¬ gx = gp2 := (by have := blk_lt HP.out; omega); have hne4 : ¬ gp2 = gx := (fun e => hne3 e.symm); have hx0 : w6.cell? ⟨gx, 0, none⟩ = some (.int .i64 0) := (blk_cell hbox 0).trans rfl; have hx1 : w6.cell? ⟨gx, 1, none⟩ = some .nilFunc := (blk_cell hbox 1).trans rfl; have hf0 := blk_frozen hbox 0; have hf1 := blk_frozen hbox 1; replace hk0 := pw_cell_below hb hk0; replace hk1 := pw_cell_below hb hk1; replace hq0 := pw_cell_below hb hq0; replace hq1 := pw_cell_below hb hq1; replace hq2 := pw_cell_below hb hq2; replace hq3 := pw_cell_below hb hq3; replace hq4 := pw_cell_below hb hq4; clear hb hbox hgx) | (first | (go_at_call 144; have := HB8; refine (part_lit2 A0_0 A0_1 A0_2 A0_3 A0_4 l0_0.length l0_1.length l0_2.length l0_3.length l0_4.length c0_0 c0_1 c0_2 c0_3 c0_4 _).mono ?_; rintro e w9 ⟨rfl, hb⟩; have HB9 := Aside0.mk (below_step HB8.out hb); have HK9 := Aside0.mk (blk_below HK8.out hb); have HP9 := Aside0.mk (blk_below HP8.out hb); clear hb) | (go_at_call 144; refine (part_lit2 A0_0 A0_1 A0_2 A0_3 A0_4 l0_0.length l0_1.length l0_2.length l0_3.length l0_4.length c0_0 c0_1 c0_2 c0_3 c0_4 _).mono ?_; rintro e w7 ⟨rfl, hb⟩; have HB7 := Aside0.mk (below_step (below_set (below_set HB6.out GEX.out) GEX.out) hb); have HK7 := Aside0.mk (blk_below (blk_far (blk_far HK6.out hne2 _) hne2 _) hb); have HP7 := Aside0.mk (blk_below (blk_far (blk_far HP6.out hne4 _) hne4 _) hb); have HX7 := Aside0.mk (show w7.cell? ⟨gx, 1, none⟩ = some (.func (.func 144) #[] #[]) from pw_cell_below hb (by go_simp; done)); clear hb)) | (go_at_call 111; refine (ContainsFunc_waits A0_2 c0_2 l0_2 false _ (Kd.C_below HR0_2.out HB7.out) HC0_2.out HW.out).mono ?_; rintro e w8 ⟨rfl, hb⟩; have HB8 := Aside0.mk (below_step HB7.out hb); have HK8 := Aside0.mk (blk_below HK7.out hb); have HP8 := Aside0.mk (blk_below HP7.out hb); have hx8 := pw_cell_below hb HX7.out; have hy0 : w8.cell? ⟨gb, 0, none⟩ = some (.slice A0_0 l0_0.length c0_0) := (blk_cell HK8.out 0).trans rfl; have hy1 : w8.cell? ⟨gb, 1, none⟩ = some (.slice A0_1 l0_1.length c0_1) := (blk_cell HK8.out 1).trans rfl; have hy2 : w8.cell? ⟨gb, 2, none⟩ = some (.slice A0_2 l0_2.length c0_2) := (blk_cell HK8.out 2).trans rfl; have hy3 : w8.cell? ⟨gb, 3, none⟩ = some (.slice A0_3 l0_3.length c0_3) := (blk_cell HK8.out 3).trans rfl; have hy4 : w8.cell? ⟨gb, 4, none⟩ = some (.slice A0_4 l0_4.length c0_4) := (blk_cell HK8.out 4).trans rfl; clear hb) | (go_at_call 46; refine (prog_Ends.calls k A0_2 c0_2 l0_2 _ _ (Kd.C_below HR0_2.out HB9.out) HC0_2.out HE.out).mono ?_; rintro e w10 ⟨rfl, hb⟩; have HB10 := Aside0.mk (below_step HB9.out hb); have HK10 := Aside0.mk (blk_below HK9.out hb); have HP10 := Aside0.mk (blk_below HP9.out hb); clear hb))
        go_ret
        exact ⟨rfl, HB10.out⟩
      · have hk0 : wr.cell? ⟨gp2, 6, none⟩ = some (.int .i64 7) := (blk_cell HP.out 6).trans rfl
        have hk1 : wr.cell? ⟨gp2, 7, none⟩ = some (.func (.func 145) #[] #[]) := (blk_cell HP.out 7).trans rfl
        have hq0 : wr.cell? ⟨gb, 0, none⟩ = some (.slice A0_0 l0_0.length c0_0) := (blk_cell HK.out 0).trans rfl
        have hq1 : wr.cell? ⟨gb, 1, none⟩ = some (.slice A0_1 l0_1.length c0_1) := (blk_cell HK.out 1).trans rfl
        have hq2 : wr.cell? ⟨gb, 2, none⟩ = some (.slice A0_2 l0_2.length c0_2) := (blk_cell HK.out 2).trans rfl
        have hq3 : wr.cell? ⟨gb, 3, none⟩ = some (.slice A0_3 l0_3.length c0_3) := (blk_cell HK.out 3).trans rfl
        have hq4 : wr.cell? ⟨gb, 4, none⟩ = some (.slice A0_4 l0_4.length c0_4) := (blk_cell HK.out 4).trans rfl
        have hc := phase_Check.ends_cons (x := l0_3) (xs := [l0_4]) HC.out
        clear HC
        rcases hc with ⟨hw, hr⟩ | ⟨hw, t, ht, hc⟩
        · subst hr
          have HW := Aside0.mk hw
          clear hw
          go_wp2_with (first | ((with_reducible refine gate_dst (N := 13) rfl ?_); refine box_event ?hg (N := 13) ?hd (cs := #[.int .i64 0, .nilFunc]) (t := 156) ?hr ?_; (case hd => rfl); (case hg => rfl); (case hr => first | (go_simp; done) | (go_simp; rfl)); intro gx hgx w6 hbox hb; have HB6 := Aside0.mk (below_step HB.out hb); have HK6 := Aside0.mk (blk_below HK.out hb); have HP6 := Aside0.mk (blk_below HP.out hb); have GEX := Aside0.mk (show w.heap.size ≤ gx by rw [hgx]; exact below_size HB.out); have HX6 := Aside0.mk hbox; have hne1 : ¬ gx = gb := (by have := blk_lt HK.out; omega); have hne2 : ¬ gb = gx := (fun e => hne1 e.symm); have hne3 : ¬ gx = gp2 := (by have := blk_lt HP.out; omega); have hne4 : ¬ gp2 = gx := (fun e => hne3 e.symm); have hx0 : w6.cell? ⟨gx, 0, none⟩ = some (.int .i64 0) := (blk_cell hbox 0).trans rfl; have hx1 : w6.cell? ⟨gx, 1, none⟩ = some .nilFunc := (blk_cell hbox 1).trans rfl; have hf0 := blk_frozen hbox 0; have hf1 := blk_frozen hbox 1; replace hk0 := pw_cell_below hb hk0; replace hk1 := pw_cell_below hb hk1; replace hq0 := pw_cell_below hb hq0; replace hq1 := pw_cell_below hb hq1; replace hq2 := pw_cell_below hb hq2; replace hq3 := pw_cell_below hb hq3; replace hq4 := pw_cell_below hb hq4; clear hb hbox hgx) | (go_at_call 145; refine (part_lit3 A0_0 A0_1 A0_2 A0_3 A0_4 l0_0.length l0_1.length l0_2.length l0_3.length l0_4.length c0_0 c0_1 c0_2 c0_3 c0_4 _).mono ?_; rintro e w7 ⟨rfl, hb⟩; have HB7 := Aside0.mk (below_step (below_set (below_set HB6.out GEX.out) GEX.out) hb); have HK7 := Aside0.mk (blk_below (blk_far (blk_far HK6.out hne2 _) hne2 _) hb); have HP7 := Aside0.mk (blk_below (blk_far (blk_far HP6.out hne4 _) hne4 _) hb); clear hb) | (go_at_call 111; refine (ContainsFunc_waits A0_3 c0_3 l0_3 true _ (Kd.C_below HR0_3.out HB7.out) HC0_3.out HW.out).mono ?_; rintro e w8 ⟨rfl, hb⟩; have HB8 := Aside0.mk (below_step HB7.out hb); have HK8 := Aside0.mk (blk_below HK7.out hb); have HP8 := Aside0.mk (blk_below HP7.out hb); clear hb))
          go_ret
          exact ⟨rfl, HB8.out⟩
        have HW := Aside0.mk hw
        have HE := Aside0.mk ht
        clear hw ht
        rcases hc with ⟨hz, hc⟩ | ⟨hz, hc⟩
        · subst hz
          have HNX := Aside0.mk hc
          clear hc
          go_wp2_with (first | ((with_reducible refine gate_dst (N := 13) rfl ?_); refine box_event ?hg (N := 13) ?hd (cs := #[.int .i64 0, .nilFunc]) (t := 156) ?hr ?_; (case hd => rfl); (case hg => rfl); (case hr => first | (go_simp; done) | (go_simp; rfl)); intro gx hgx w6 hbox hb; have HB6 := Aside0.mk (below_step HB.out hb); have HK6 := Aside0.mk (blk_below HK.out hb); have HP6 := Aside0.mk (blk_below HP.out hb); have GEX := Aside0.mk (show w.heap.size ≤ gx by rw [hgx]; exact below_size HB.out); have HX6 := Aside0.mk hbox; have hne1 : ¬ gx = gb := (by have := blk_lt HK.out; omega); have hne2 : ¬ gb = gx := (fun e => hne1 e.symm); have hne3 : ¬ gx = gp2 := (by have := blk_lt HP.out; omega); have hne4 : ¬ gp2 = gx := (fun e => hne3 e.symm); have hx0 : w6.cell? ⟨gx, 0, none⟩ = some (.int .i64 0) := (blk_cell hbox 0).trans rfl; have hx1 : w6.cell? ⟨gx, 1, none⟩ = some .nilFunc := (blk_cell hbox 1).trans rfl; have hf0 := blk_frozen hbox 0; have hf1 := blk_frozen hbox 1; replace hk0 := pw_cell_below hb hk0; replace hk1 := pw_cell_below hb hk1; replace hq0 := pw_cell_below hb hq0; replace hq1 := pw_cell_below hb hq1; replace hq2 := pw_cell_below hb hq2; replace hq3 := pw_cell_below hb hq3; replace hq4 := pw_cell_below hb hq4; clear hb hbox hgx) | (first | (go_at_call 145; have := HB8; refine (part_lit3 A0_0 A0_1 A0_2 A0_3 A0_4 l0_0.length l0_1.length l0_2.length l0_3.length l0_4.length c0_0 c0_1 c0_2 c0_3 c0_4 _).mono ?_; rintro e w9 ⟨rfl, hb⟩; have HB9 := Aside0.mk (below_step HB8.out hb); have HK9 := Aside0.mk (blk_below HK8.out hb); have HP9 := Aside0.mk (blk_below HP8.out hb); clear hb) | (go_at_call 145; refine (part_lit3 A0_0 A0_1 A0_2 A0_3 A0_4 l0_0.length l0_1.length l0_2.length l0_3.length l0_4.length c0_0 c0_1 c0_2 c0_3 c0_4 _).mono ?_; rintro e w7 ⟨rfl, hb⟩; have HB7 := Aside0.mk (below_step (below_set (below_set HB6.out GEX.out) GEX.out) hb); have HK7 := Aside0.mk (blk_below (blk_far (blk_far HK6.out hne2 _) hne2 _) hb); have HP7 := Aside0.mk (blk_below (blk_far (blk_far HP6.out hne4 _) hne4 _) hb); have HX7 := Aside0.mk (show w7.cell? ⟨gx, 1, none⟩ = some (.func (.func 145) #[] #[]) from pw_cell_below hb (by go_simp; done)); clear hb)) | (go_at_call 111; refine (ContainsFunc_waits A0_3 c0_3 l0_3 false _ (Kd.C_below HR0_3.out HB7.out) HC0_3.out HW.out).mono ?_; rintro e w8 ⟨rfl, hb⟩; have HB8 := Aside0.mk (below_step HB7.out hb); have HK8 := Aside0.mk (blk_below HK7.out hb); have HP8 := Aside0.mk (blk_below HP7.out hb); have hx8 := pw_cell_below hb HX7.out; have hy0 : w8.cell? ⟨gb, 0, none⟩ = some (.slice A0_0 l0_0.length c0_0) := (blk_cell HK8.out 0).trans rfl; have hy1 : w8.cell? ⟨gb, 1, none⟩ = some (.slice A0_1 l0_1.length c0_1) := (blk_cell HK8.out 1).trans rfl; have hy2 : w8.cell? ⟨gb, 2, none⟩ = some (.slice A0_2 l0_2.length c0_2) := (blk_cell HK8.out 2).trans rfl; have hy3 : w8.cell? ⟨gb, 3, none⟩ = some (.slice A0_3 l0_3.length c0_3) := (blk_cell HK8.out 3).trans rfl; have hy4 : w8.cell? ⟨gb, 4, none⟩ = some (.slice A0_4 l0_4.length c0_4) := (blk_cell HK8.out 4).trans rfl; clear hb) | (go_at_call 46; refine (prog_Ends.calls k A0_3 c0_3 l0_3 _ _ (Kd.C_below HR0_3.out HB9.out) HC0_3.out HE.out).mono ?_; rintro e w10 ⟨rfl, hb⟩; have HB10 := Aside0.mk (below_step HB9.out hb); have HK10 := Aside0.mk (blk_below HK9.out hb); have HP10 := Aside0.mk (blk_below HP9.out hb); clear hb))
          go_roundg 1
          case measure => have := HI.out; omega
          case rel => exact ⟨3, by first | rfl | (simp; done), ⟨by omega, by omega⟩, HNX, HK10, HP10, HB10⟩
        subst hz
        subst hc
        go_wp2_with (first | ((with_reducible refine gate_dst (N := 13) rfl ?_); refine box_event ?hg (N := 13) ?hd (cs := #[.int .i64 0, .nilFunc]) (t := 156) ?hr ?_; (case hd => rfl); (case hg => rfl); (case hr => first | (go_simp; done) | (go_simp; rfl)); intro gx hgx w6 hbox hb; have HB6 := Aside0.mk (below_step HB.out hb); have HK6 := Aside0.mk (blk_below HK.out hb); have HP6 := Aside0.mk (blk_below HP.out hb); have GEX := Aside0.mk (show w.heap.size ≤ gx by rw [hgx]; exact below_size HB.out); have HX6 := Aside0.mk hbox; have hne1 : ¬ gx = gb := (by have := blk_lt HK.out; omega); have hne2 : ¬ gb = gx := (fun e => hne1 e.symm); have hne3 : ¬ gx = gp2 := (by have := blk_lt HP.out; omega); have hne4 : ¬ gp2 = gx := (fun e => hne3 e.symm); have hx0 : w6.cell? ⟨gx, 0, none⟩ = some (.int .i64 0) := (blk_cell hbox 0).trans rfl; have hx1 : w6.cell? ⟨gx, 1, none⟩ = some .nilFunc := (blk_cell hbox 1).trans rfl; have hf0 := blk_frozen hbox 0; have hf1 := blk_frozen hbox 1; replace hk0 := pw_cell_below hb hk0; replace hk1 := pw_cell_below hb hk1; replace hq0 := pw_cell_below hb hq0; replace hq1 := pw_cell_below hb hq1; replace hq2 := pw_cell_below hb hq2; replace hq3 := pw_cell_below hb hq3; replace hq4 := pw_cell_below hb hq4; clear hb hbox hgx) | (first | (go_at_call 145; have := HB8; refine (part_lit3 A0_0 A0_1 A0_2 A0_3 A0_4 l0_0.length l0_1.length l0_2.length l0_3.length l0_4.length c0_0 c0_1 c0_2 c0_3 c0_4 _).mono ?_; rintro e w9 ⟨rfl, hb⟩; have HB9 := Aside0.mk (below_step HB8.out hb); have HK9 := Aside0.mk (blk_below HK8.out hb); have HP9 := Aside0.mk (blk_below HP8.out hb); clear hb) | (go_at_call 145; refine (part_lit3 A0_0 A0_1 A0_2 A0_3 A0_4 l0_0.length l0_1.length l0_2.length l0_3.length l0_4.length c0_0 c0_1 c0_2 c0_3 c0_4 _).mono ?_; rintro e w7 ⟨rfl, hb⟩; have HB7 := Aside0.mk (below_step (below_set (below_set HB6.out GEX.out) GEX.out) hb); have HK7 := Aside0.mk (blk_below (blk_far (blk_far HK6.out hne2 _) hne2 _) hb); have HP7 := Aside0.mk (blk_below (blk_far (blk_far HP6.out hne4 _) hne4 _) hb); have HX7 := Aside0.mk (show w7.cell? ⟨gx, 1, none⟩ = some (.func (.func 145) #[] #[]) from pw_cell_below hb (by go_simp; done)); clear hb)) | (go_at_call 111; refine (ContainsFunc_waits A0_3 c0_3 l0_3 false _ (Kd.C_below HR0_3.out HB7.out) HC0_3.out HW.out).mono ?_; rintro e w8 ⟨rfl, hb⟩; have HB8 := Aside0.mk (below_step HB7.out hb); have HK8 := Aside0.mk (blk_below HK7.out hb); have HP8 := Aside0.mk (blk_below HP7.out hb); have hx8 := pw_cell_below hb HX7.out; have hy0 : w8.cell? ⟨gb, 0, none⟩ = some (.slice A0_0 l0_0.length c0_0) := (blk_cell HK8.out 0).trans rfl; have hy1 : w8.cell? ⟨gb, 1, none⟩ = some (.slice A0_1 l0_1.length c0_1) := (blk_cell HK8.out 1).trans rfl; have hy2 : w8.cell? ⟨gb, 2, none⟩ = some (.slice A0_2 l0_2.length c0_2) := (blk_cell HK8.out 2).trans rfl; have hy3 : w8.cell? ⟨gb, 3, none⟩ = some (.slice A0_3 l0_3.length c0_3) := (blk_cell HK8.out 3).trans rfl; have hy4 : w8.cell? ⟨gb, 4, none⟩ = some (.slice A0_4 l0_4.length c0_4) := (blk_cell HK8.out 4).trans rfl; clear hb) | (go_at_call 46; refine (prog_Ends.calls k A0_3 c0_3 l0_3 _ _ (Kd.C_below HR0_3.out HB9.out) HC0_3.out HE.out).mono ?_; rintro e w10 ⟨rfl, hb⟩; have HB10 := Aside0.mk (below_step HB9.out hb); have HK10 := Aside0.mk (blk_below HK9.out hb); have HP10 := Aside0.mk (blk_below HP9.out hb); clear hb))
        go_ret
        exact ⟨rfl, HB10.out⟩
      · have hk0 : wr.cell? ⟨gp2, 8, none⟩ = some (.int .i64 9) := (blk_cell HP.out 8).trans rfl
        have hk1 : wr.cell? ⟨gp2, 9, none⟩ = some (.func (.func 146) #[] #[]) := (blk_cell HP.out 9).trans rfl
        have hq0 : wr.cell? ⟨gb, 0, none⟩ = some (.slice A0_0 l0_0.length c0_0) := (blk_cell HK.out 0).trans rfl
        have hq1 : wr.cell? ⟨gb, 1, none⟩ = some (.slice A0_1 l0_1.length c0_1) := (blk_cell HK.out 1).trans rfl
        have hq2 : wr.cell? ⟨gb, 2, none⟩ = some (.slice A0_2 l0_2.length c0_2) := (blk_cell HK.out 2).trans rfl
        have hq3 : wr.cell? ⟨gb, 3, none⟩ = some (.slice A0_3 l0_3.length c0_3) := (blk_cell HK.out 3).trans rfl
        have hq4 : wr.cell? ⟨gb, 4, none⟩ = some (.slice A0_4 l0_4.length c0_4) := (blk_cell HK.out 4).trans rfl
        have hc := phase_Check.ends_cons (x := l0_4) (xs := []) HC.out
        clear HC
        rcases hc with ⟨hw, hr⟩ | ⟨hw, t, ht, hc⟩
        · subst hr
          have HW := Aside0.mk hw
          clear hw
          go_wp2_with (first | ((with_reducible refine gate_dst (N := 13) rfl ?_); refine box_event ?hg (N := 13) ?hd (cs := #[.int .i64 0, .nilFunc]) (t := 156) ?hr ?_; (case hd => rfl); (case hg => rfl); (case hr => first | (go_simp; done) | (go_simp; rfl)); intro gx hgx w6 hbox hb; have HB6 := Aside0.mk (below_step HB.out hb); have HK6 := Aside0.mk (blk_below HK.out hb); have HP6 := Aside0.mk (blk_below HP.out hb); have GEX := Aside0.mk (show w.heap.size ≤ gx by rw [hgx]; exact below_size HB.out); have HX6 := Aside0.mk hbox; have hne1 : ¬ gx = gb := (by have := blk_lt HK.out; omega); have hne2 : ¬ gb = gx := (fun e => hne1 e.symm); have hne3 : ¬ gx = gp2 := (by have := blk_lt HP.out; omega); have hne4 : ¬ gp2 = gx := (fun e => hne3 e.symm); have hx0 : w6.cell? ⟨gx, 0, none⟩ = some (.int .i64 0) := (blk_cell hbox 0).trans rfl; have hx1 : w6.cell? ⟨gx, 1, none⟩ = some .nilFunc := (blk_cell hbox 1).trans rfl; have hf0 := blk_frozen hbox 0; have hf1 := blk_frozen hbox 1; replace hk0 := pw_cell_below hb hk0; replace hk1 := pw_cell_below hb hk1; replace hq0 := pw_cell_below hb hq0; replace hq1 := pw_cell_below hb hq1; replace hq2 := pw_cell_below hb hq2; replace hq3 := pw_cell_below hb hq3; replace hq4 := pw_cell_below hb hq4; clear hb hbox hgx) | (go_at_call 146; refine (part_lit4 A0_0 A0_1 A0_2 A0_3 A0_4 l0_0.length l0_1.length l0_2.length l0_3.length l0_4.length c0_0 c0_1 c0_2 c0_3 c0_4 _).mono ?_; rintro e w7 ⟨rfl, hb⟩; have HB7 := Aside0.mk (below_step (below_set (below_set HB6.out GEX.out) GEX.out) hb); have HK7 := Aside0.mk (blk_below (blk_far (blk_far HK6.out hne2 _) hne2 _) hb); have HP7 := Aside0.mk (blk_below (blk_far (blk_far HP6.out hne4 _) hne4 _) hb); clear hb) | (go_at_call 111; refine (ContainsFunc_waits A0_4 c0_4 l0_4 true _ (Kd.C_below HR0_4.out HB7.out) HC0_4.out HW.out).mono ?_; rintro e w8 ⟨rfl, hb⟩; have HB8 := Aside0.mk (below_step HB7.out hb); have HK8 := Aside0.mk (blk_below HK7.out hb); have HP8 := Aside0.mk (blk_below HP7.out hb); clear hb))
          go_ret
          exact ⟨rfl, HB8.out⟩
        have HW := Aside0.mk hw
        have HE := Aside0.mk ht
        clear hw ht
        rcases hc with ⟨hz, hc⟩ | ⟨hz, hc⟩
        · subst hz
          have HNX := Aside0.mk hc
          clear hc
          go_wp2_with (first | ((with_reducible refine gate_dst (N := 13) rfl ?_); refine box_event ?hg (N := 13) ?hd (cs := #[.int .i64 0, .nilFunc]) (t := 156) ?hr ?_; (case hd => rfl); (case hg => rfl); (case hr => first | (go_simp; done) | (go_simp; rfl)); intro gx hgx w6 hbox hb; have HB6 := Aside0.mk (below_step HB.out hb); have HK6 := Aside0.mk (blk_below HK.out hb); have HP6 := Aside0.mk (blk_below HP.out hb); have GEX := Aside0.mk (show w.heap.size ≤ gx by rw [hgx]; exact below_size HB.out); have HX6 := Aside0.mk hbox; have hne1 : ¬ gx = gb := (by have := blk_lt HK.out; omega); have hne2 : ¬ gb = gx := (fun e => hne1 e.symm); have hne3 : ¬ gx = gp2 := (by have := blk_lt HP.out; omega); have hne4 : ¬ gp2 = gx := (fun e => hne3 e.symm); have hx0 : w6.cell? ⟨gx, 0, none⟩ = some (.int .i64 0) := (blk_cell hbox 0).trans rfl; have hx1 : w6.cell? ⟨gx, 1, none⟩ = some .nilFunc := (blk_cell hbox 1).trans rfl; have hf0 := blk_frozen hbox 0; have hf1 := blk_frozen hbox 1; replace hk0 := pw_cell_below hb hk0; replace hk1 := pw_cell_below hb hk1; replace hq0 := pw_cell_below hb hq0; replace hq1 := pw_cell_below hb hq1; replace hq2 := pw_cell_below hb hq2; replace hq3 := pw_cell_below hb hq3; replace hq4 := pw_cell_below hb hq4; clear hb hbox hgx) | (first | (go_at_call 146; have := HB8; refine (part_lit4 A0_0 A0_1 A0_2 A0_3 A0_4 l0_0.length l0_1.length l0_2.length l0_3.length l0_4.length c0_0 c0_1 c0_2 c0_3 c0_4 _).mono ?_; rintro e w9 ⟨rfl, hb⟩; have HB9 := Aside0.mk (below_step HB8.out hb); have HK9 := Aside0.mk (blk_below HK8.out hb); have HP9 := Aside0.mk (blk_below HP8.out hb); clear hb) | (go_at_call 146; refine (part_lit4 A0_0 A0_1 A0_2 A0_3 A0_4 l0_0.length l0_1.length l0_2.length l0_3.length l0_4.length c0_0 c0_1 c0_2 c0_3 c0_4 _).mono ?_; rintro e w7 ⟨rfl, hb⟩; have HB7 := Aside0.mk (below_step (below_set (below_set HB6.out GEX.out) GEX.out) hb); have HK7 := Aside0.mk (blk_below (blk_far (blk_far HK6.out hne2 _) hne2 _) hb); have HP7 := Aside0.mk (blk_below (blk_far (blk_far HP6.out hne4 _) hne4 _) hb); have HX7 := Aside0.mk (show w7.cell? ⟨gx, 1, none⟩ = some (.func (.func 146) #[] #[]) from pw_cell_below hb (by go_simp; done)); clear hb)) | (go_at_call 111; refine (ContainsFunc_waits A0_4 c0_4 l0_4 false _ (Kd.C_below HR0_4.out HB7.out) HC0_4.out HW.out).mono ?_; rintro e w8 ⟨rfl, hb⟩; have HB8 := Aside0.mk (below_step HB7.out hb); have HK8 := Aside0.mk (blk_below HK7.out hb); have HP8 := Aside0.mk (blk_below HP7.out hb); have hx8 := pw_cell_below hb HX7.out; have hy0 : w8.cell? ⟨gb, 0, none⟩ = some (.slice A0_0 l0_0.length c0_0) := (blk_cell HK8.out 0).trans rfl; have hy1 : w8.cell? ⟨gb, 1, none⟩ = some (.slice A0_1 l0_1.length c0_1) := (blk_cell HK8.out 1).trans rfl; have hy2 : w8.cell? ⟨gb, 2, none⟩ = some (.slice A0_2 l0_2.length c0_2) := (blk_cell HK8.out 2).trans rfl; have hy3 : w8.cell? ⟨gb, 3, none⟩ = some (.slice A0_3 l0_3.length c0_3) := (blk_cell HK8.out 3).trans rfl; have hy4 : w8.cell? ⟨gb, 4, none⟩ = some (.slice A0_4 l0_4.length c0_4) := (blk_cell HK8.out 4).trans rfl; clear hb) | (go_at_call 46; refine (prog_Ends.calls k A0_4 c0_4 l0_4 _ _ (Kd.C_below HR0_4.out HB9.out) HC0_4.out HE.out).mono ?_; rintro e w10 ⟨rfl, hb⟩; have HB10 := Aside0.mk (below_step HB9.out hb); have HK10 := Aside0.mk (blk_below HK9.out hb); have HP10 := Aside0.mk (blk_below HP9.out hb); clear hb))
          go_roundg 0
          case measure => have := HI.out; omega
          case rel => exact ⟨4, by first | rfl | (simp; done), ⟨by omega, by omega⟩, HNX, HK10, HP10, HB10⟩
        subst hz
        subst hc
        go_wp2_with (first | ((with_reducible refine gate_dst (N := 13) rfl ?_); refine box_event ?hg (N := 13) ?hd (cs := #[.int .i64 0, .nilFunc]) (t := 156) ?hr ?_; (case hd => rfl); (case hg => rfl); (case hr => first | (go_simp; done) | (go_simp; rfl)); intro gx hgx w6 hbox hb; have HB6 := Aside0.mk (below_step HB.out hb); have HK6 := Aside0.mk (blk_below HK.out hb); have HP6 := Aside0.mk (blk_below HP.out hb); have GEX := Aside0.mk (show w.heap.size ≤ gx by rw [hgx]; exact below_size HB.out); have HX6 := Aside0.mk hbox; have hne1 : ¬ gx = gb := (by have := blk_lt HK.out; omega); have hne2 : ¬ gb = gx := (fun e => hne1 e.symm); have hne3 : ¬ gx = gp2 := (by have := blk_lt HP.out; omega); have hne4 : ¬ gp2 = gx := (fun e => hne3 e.symm); have hx0 : w6.cell? ⟨gx, 0, none⟩ = some (.int .i64 0) := (blk_cell hbox 0).trans rfl; have hx1 : w6.cell? ⟨gx, 1, none⟩ = some .nilFunc := (blk_cell hbox 1).trans rfl; have hf0 := blk_frozen hbox 0; have hf1 := blk_frozen hbox 1; replace hk0 := pw_cell_below hb hk0; replace hk1 := pw_cell_below hb hk1; replace hq0 := pw_cell_below hb hq0; replace hq1 := pw_cell_below hb hq1; replace hq2 := pw_cell_below hb hq2; replace hq3 := pw_cell_below hb hq3; replace hq4 := pw_cell_below hb hq4; clear hb hbox hgx) | (first | (go_at_call 146; have := HB8; refine (part_lit4 A0_0 A0_1 A0_2 A0_3 A0_4 l0_0.length l0_1.length l0_2.length l0_3.length l0_4.length c0_0 c0_1 c0_2 c0_3 c0_4 _).mono ?_; rintro e w9 ⟨rfl, hb⟩; have HB9 := Aside0.mk (below_step HB8.out hb); have HK9 := Aside0.mk (blk_below HK8.out hb); have HP9 := Aside0.mk (blk_below HP8.out hb); clear hb) | (go_at_call 146; refine (part_lit4 A0_0 A0_1 A0_2 A0_3 A0_4 l0_0.length l0_1.length l0_2.length l0_3.length l0_4.length c0_0 c0_1 c0_2 c0_3 c0_4 _).mono ?_; rintro e w7 ⟨rfl, hb⟩; have HB7 := Aside0.mk (below_step (below_set (below_set HB6.out GEX.out) GEX.out) hb); have HK7 := Aside0.mk (blk_below (blk_far (blk_far HK6.out hne2 _) hne2 _) hb); have HP7 := Aside0.mk (blk_below (blk_far (blk_far HP6.out hne4 _) hne4 _) hb); have HX7 := Aside0.mk (show w7.cell? ⟨gx, 1, none⟩ = some (.func (.func 146) #[] #[]) from pw_cell_below hb (by go_simp; done)); clear hb)) | (go_at_call 111; refine (ContainsFunc_waits A0_4 c0_4 l0_4 false _ (Kd.C_below HR0_4.out HB7.out) HC0_4.out HW.out).mono ?_; rintro e w8 ⟨rfl, hb⟩; have HB8 := Aside0.mk (below_step HB7.out hb); have HK8 := Aside0.mk (blk_below HK7.out hb); have HP8 := Aside0.mk (blk_below HP7.out hb); have hx8 := pw_cell_below hb HX7.out; have hy0 : w8.cell? ⟨gb, 0, none⟩ = some (.slice A0_0 l0_0.length c0_0) := (blk_cell HK8.out 0).trans rfl; have hy1 : w8.cell? ⟨gb, 1, none⟩ = some (.slice A0_1 l0_1.length c0_1) := (blk_cell HK8.out 1).trans rfl; have hy2 : w8.cell? ⟨gb, 2, none⟩ = some (.slice A0_2 l0_2.length c0_2) := (blk_cell HK8.out 2).trans rfl; have hy3 : w8.cell? ⟨gb, 3, none⟩ = some (.slice A0_3 l0_3.length c0_3) := (blk_cell HK8.out 3).trans rfl; have hy4 : w8.cell? ⟨gb, 4, none⟩ = some (.slice A0_4 l0_4.length c0_4) := (blk_cell HK8.out 4).trans rfl; clear hb) | (go_at_call 46; refine (prog_Ends.calls k A0_4 c0_4 l0_4 _ _ (Kd.C_below HR0_4.out HB9.out) HC0_4.out HE.out).mono ?_; rintro e w10 ⟨rfl, hb⟩; have HB10 := Aside0.mk (below_step HB9.out hb); have HK10 := Aside0.mk (blk_below HK9.out hb); have HP10 := Aside0.mk (blk_below HP9.out hb); clear hb))
        go_ret
        exact ⟨rfl, HB10.out⟩
      have hh := HC.out
      have hr : r = 0 := (Option.some.inj hh).symm
      subst hr
      clear hh HC HP
      go_wp2
      go_ret
      exact ⟨rfl, HB.out⟩
end Go.Proofs.YtiaccdaeomaogaaDoor.F
