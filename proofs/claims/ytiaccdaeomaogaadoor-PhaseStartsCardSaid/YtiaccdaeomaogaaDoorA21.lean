/- Texts of one claim, slimmed and merged by slim.py. -/
import Derived.Laws.EntriesVeiled
import Derived.Test.YtiaccdaeomaogaaDoorA4
import Derived.Test.YtiaccdaeomaogaaDoorA6
import Derived.Test.YtiaccdaeomaogaaDoorA7
import Derived.Test.YtiaccdaeomaogaaDoorA9
import Derived.Test.YtiaccdaeomaogaaDoorA18
namespace Go.Proofs.YtiaccdaeomaogaaDoor.F
open Go.RowKit Go.Proofs.YtiaccdaeomaogaaDoorW.PrintWords Go.Proofs.YtiaccdaeomaogaaDoorW.PrintLast Go.Proofs.YtiaccdaeomaogaaDoorW.PrintMore
attribute [local go_sem] max2_int min2_int max_two min_two max_three min_three max_four min_four   -- for this text's walks alone
set_option linter.unusedVariables false
set_option linter.unusedSimpArgs false
set_option maxHeartbeats 4000000 in
set_option maxRecDepth 100000 in
theorem part_lit0 (A0 A1 A2 A3 A4 : Option Addr) (n0 n1 n2 n3 n4 c0 c1 c2 c3 c4 : Nat) (w : World) :
    Calls Tryd.prog 142 #[.agg #[.slice A0 n0 c0, .slice A1 n1 c1, .slice A2 n2 c2, .slice A3 n3 c3, .slice A4 n4 c4]] w fun e w' => e = .returned (.slice A0 n0 c0) ∧ Below w.heap.size w w' := by
  have hu80 := Tryd.underlying80
  go_enter Tryd.func142, Tryd.ntmps142
  go_wp2_with (first | ((with_reducible refine gate_dst (N := 1) rfl ?_); refine box_event ?hg (N := 1) ?hd (cs := #[.slice A0 n0 c0, .slice A1 n1 c1, .slice A2 n2 c2, .slice A3 n3 c3, .slice A4 n4 c4]) (t := 80) ?hr ?_; (case hd => rfl); (case hg => rfl); (case hr => first | (go_simp; done) | (go_simp; rfl)); intro gb hg w4 hbox hb; have HB4 := Aside0.mk hb; clear hb hg; have hcz0 : w4.cell? ⟨gb, 0, none⟩ = some (.slice A0 n0 c0) := (blk_cell hbox 0).trans rfl; clear hbox))
  go_ret
  exact ⟨rfl, HB4.out⟩
set_option maxHeartbeats 4000000 in
set_option maxRecDepth 100000 in
theorem part_lit1 (A0 A1 A2 A3 A4 : Option Addr) (n0 n1 n2 n3 n4 c0 c1 c2 c3 c4 : Nat) (w : World) :
    Calls Tryd.prog 143 #[.agg #[.slice A0 n0 c0, .slice A1 n1 c1, .slice A2 n2 c2, .slice A3 n3 c3, .slice A4 n4 c4]] w fun e w' => e = .returned (.slice A1 n1 c1) ∧ Below w.heap.size w w' := by
  have hu80 := Tryd.underlying80
  go_enter Tryd.func143, Tryd.ntmps143
  go_wp2_with (first | ((with_reducible refine gate_dst (N := 1) rfl ?_); refine box_event ?hg (N := 1) ?hd (cs := #[.slice A0 n0 c0, .slice A1 n1 c1, .slice A2 n2 c2, .slice A3 n3 c3, .slice A4 n4 c4]) (t := 80) ?hr ?_; (case hd => rfl); (case hg => rfl); (case hr => first | (go_simp; done) | (go_simp; rfl)); intro gb hg w4 hbox hb; have HB4 := Aside0.mk hb; clear hb hg; have hcz0 : w4.cell? ⟨gb, 1, none⟩ = some (.slice A1 n1 c1) := (blk_cell hbox 1).trans rfl; clear hbox))
  go_ret
  exact ⟨rfl, HB4.out⟩
set_option maxHeartbeats 4000000 in
set_option maxRecDepth 100000 in
theorem part_lit2 (A0 A1 A2 A3 A4 : Option Addr) (n0 n1 n2 n3 n4 c0 c1 c2 c3 c4 : Nat) (w : World) :
    Calls Tryd.prog 144 #[.agg #[.slice A0 n0 c0, .slice A1 n1 c1, .slice A2 n2 c2, .slice A3 n3 c3, .slice A4 n4 c4]] w fun e w' => e = .returned (.slice A2 n2 c2) ∧ Below w.heap.size w w' := by
  have hu80 := Tryd.underlying80
  go_enter Tryd.func144, Tryd.ntmps144
  go_wp2_with (first | ((with_reducible refine gate_dst (N := 1) rfl ?_); refine box_event ?hg (N := 1) ?hd (cs := #[.slice A0 n0 c0, .slice A1 n1 c1, .slice A2 n2 c2, .slice A3 n3 c3, .slice A4 n4 c4]) (t := 80) ?hr ?_; (case hd => rfl); (case hg => rfl); (case hr => first | (go_simp; done) | (go_simp; rfl)); intro gb hg w4 hbox hb; have HB4 := Aside0.mk hb; clear hb hg; have hcz0 : w4.cell? ⟨gb, 2, none⟩ = some (.slice A2 n2 c2) := (blk_cell hbox 2).trans rfl; clear hbox))
  go_ret
  exact ⟨rfl, HB4.out⟩
set_option maxHeartbeats 4000000 in
set_option maxRecDepth 100000 in
theorem part_lit3 (A0 A1 A2 A3 A4 : Option Addr) (n0 n1 n2 n3 n4 c0 c1 c2 c3 c4 : Nat) (w : World) :
    Calls Tryd.prog 145 #[.agg #[.slice A0 n0 c0, .slice A1 n1 c1, .slice A2 n2 c2, .slice A3 n3 c3, .slice A4 n4 c4]] w fun e w' => e = .returned (.slice A3 n3 c3) ∧ Below w.heap.size w w' := by
  have hu80 := Tryd.underlying80
  go_enter Tryd.func145, Tryd.ntmps145
  go_wp2_with (first | ((with_reducible refine gate_dst (N := 1) rfl ?_); refine box_event ?hg (N := 1) ?hd (cs := #[.slice A0 n0 c0, .slice A1 n1 c1, .slice A2 n2 c2, .slice A3 n3 c3, .slice A4 n4 c4]) (t := 80) ?hr ?_; (case hd => rfl); (case hg => rfl); (case hr => first | (go_simp; done) | (go_simp; rfl)); intro gb hg w4 hbox hb; have HB4 := Aside0.mk hb; clear hb hg; have hcz0 : w4.cell? ⟨gb, 3, none⟩ = some (.slice A3 n3 c3) := (blk_cell hbox 3).trans rfl; clear hbox))
  go_ret
  exact ⟨rfl, HB4.out⟩
set_option maxHeartbeats 4000000 in
set_option maxRecDepth 100000 in
theorem part_lit4 (A0 A1 A2 A3 A4 : Option Addr) (n0 n1 n2 n3 n4 c0 c1 c2 c3 c4 : Nat) (w : World) :
    Calls Tryd.prog 146 #[.agg #[.slice A0 n0 c0, .slice A1 n1 c1, .slice A2 n2 c2, .slice A3 n3 c3, .slice A4 n4 c4]] w fun e w' => e = .returned (.slice A4 n4 c4) ∧ Below w.heap.size w w' := by
  have hu80 := Tryd.underlying80
  go_enter Tryd.func146, Tryd.ntmps146
  go_wp2_with (first | ((with_reducible refine gate_dst (N := 1) rfl ?_); refine box_event ?hg (N := 1) ?hd (cs := #[.slice A0 n0 c0, .slice A1 n1 c1, .slice A2 n2 c2, .slice A3 n3 c3, .slice A4 n4 c4]) (t := 80) ?hr ?_; (case hd => rfl); (case hg => rfl); (case hr => first | (go_simp; done) | (go_simp; rfl)); intro gb hg w4 hbox hb; have HB4 := Aside0.mk hb; clear hb hg; have hcz0 : w4.cell? ⟨gb, 4, none⟩ = some (.slice A4 n4 c4) := (blk_cell hbox 4).trans rfl; clear hbox))
  go_ret
  exact ⟨rfl, HB4.out⟩
def phase_find.f (l0 l1 l2 l3 l4 : List S67) (a1 : Int) : Option (List S67 × Bool) := if a1 = 1 then some (l0, true) else (if a1 = 4 then some (l1, true) else (if a1 = 6 then some (l2, true) else (if a1 = 7 then some (l3, true) else (if a1 = 9 then some (l4, true) else (some ([], false))))))
set_option maxHeartbeats 8000000 in
set_option maxRecDepth 100000 in
theorem phase_find.calls (P0_0_ : Nat → Prop) (A0_0 : Option Addr) (c0_0 : Nat) (l0_0 : List S67) (P0_1_ : Nat → Prop) (A0_1 : Option Addr) (c0_1 : Nat) (l0_1 : List S67) (P0_2_ : Nat → Prop) (A0_2 : Option Addr) (c0_2 : Nat) (l0_2 : List S67) (P0_3_ : Nat → Prop) (A0_3 : Option Addr) (c0_3 : Nat) (l0_3 : List S67) (P0_4_ : Nat → Prop) (A0_4 : Option Addr) (c0_4 : Nat) (l0_4 : List S67) (a1 : Int) (r1 : List S67) (r2 : Bool) (w : World) (hs0_0 : Kd.V k67 67 w w.heap.size (fun k_ => P0_0_ k_) (.slice A0_0 l0_0.length c0_0) l0_0) (hs0_1 : Kd.V k67 67 w w.heap.size (fun k_ => P0_1_ k_) (.slice A0_1 l0_1.length c0_1) l0_1) (hs0_2 : Kd.V k67 67 w w.heap.size (fun k_ => P0_2_ k_) (.slice A0_2 l0_2.length c0_2) l0_2) (hs0_3 : Kd.V k67 67 w w.heap.size (fun k_ => P0_3_ k_) (.slice A0_3 l0_3.length c0_3) l0_3) (hs0_4 : Kd.V k67 67 w w.heap.size (fun k_ => P0_4_ k_) (.slice A0_4 l0_4.length c0_4) l0_4) (h : phase_find.f l0_0 l0_1 l0_2 l0_3 l0_4 a1 = some (r1, r2)) :
    Calls Tryd.prog 83 #[.agg #[.slice A0_0 l0_0.length c0_0, .slice A0_1 l0_1.length c0_1, .slice A0_2 l0_2.length c0_2, .slice A0_3 l0_3.length c0_3, .slice A0_4 l0_4.length c0_4], .int .i64 a1] w fun e w' => ∃ v0_ : Value, e = .returned (.tuple #[v0_, .bool r2]) ∧ Kd.V k67 67 w' w.heap.size (fun k_ => ((P0_0_ k_ ∨ P0_1_ k_ ∨ P0_2_ k_ ∨ P0_3_ k_ ∨ P0_4_ k_) ∨ w.heap.size ≤ k_)) v0_ r1 ∧ Below w.heap.size w w' := by
  have hu80 := Tryd.underlying80
  have hup := Tryd.underlying156
  have HV0 := Aside0.mk (fun (w' : World) (hb : Below w.heap.size w w') => (Kd.V_mono (Kd.V_below hs0_0 hb) (fun k hk => Or.inl (Or.inl hk)) : Kd.V k67 67 w' w.heap.size (fun k_ => ((P0_0_ k_ ∨ P0_1_ k_ ∨ P0_2_ k_ ∨ P0_3_ k_ ∨ P0_4_ k_) ∨ w.heap.size ≤ k_)) (.slice A0_0 l0_0.length c0_0) l0_0))
  have HV1 := Aside0.mk (fun (w' : World) (hb : Below w.heap.size w w') => (Kd.V_mono (Kd.V_below hs0_1 hb) (fun k hk => Or.inl (Or.inr (Or.inl hk))) : Kd.V k67 67 w' w.heap.size (fun k_ => ((P0_0_ k_ ∨ P0_1_ k_ ∨ P0_2_ k_ ∨ P0_3_ k_ ∨ P0_4_ k_) ∨ w.heap.size ≤ k_)) (.slice A0_1 l0_1.length c0_1) l0_1))
  have HV2 := Aside0.mk (fun (w' : World) (hb : Below w.heap.size w w') => (Kd.V_mono (Kd.V_below hs0_2 hb) (fun k hk => Or.inl (Or.inr (Or.inr (Or.inl hk)))) : Kd.V k67 67 w' w.heap.size (fun k_ => ((P0_0_ k_ ∨ P0_1_ k_ ∨ P0_2_ k_ ∨ P0_3_ k_ ∨ P0_4_ k_) ∨ w.heap.size ≤ k_)) (.slice A0_2 l0_2.length c0_2) l0_2))
  have HV3 := Aside0.mk (fun (w' : World) (hb : Below w.heap.size w w') => (Kd.V_mono (Kd.V_below hs0_3 hb) (fun k hk => Or.inl (Or.inr (Or.inr (Or.inr (Or.inl hk))))) : Kd.V k67 67 w' w.heap.size (fun k_ => ((P0_0_ k_ ∨ P0_1_ k_ ∨ P0_2_ k_ ∨ P0_3_ k_ ∨ P0_4_ k_) ∨ w.heap.size ≤ k_)) (.slice A0_3 l0_3.length c0_3) l0_3))
  have HV4 := Aside0.mk (fun (w' : World) (hb : Below w.heap.size w w') => (Kd.V_mono (Kd.V_below hs0_4 hb) (fun k hk => Or.inl (Or.inr (Or.inr (Or.inr (Or.inr hk))))) : Kd.V k67 67 w' w.heap.size (fun k_ => ((P0_0_ k_ ∨ P0_1_ k_ ∨ P0_2_ k_ ∨ P0_3_ k_ ∨ P0_4_ k_) ∨ w.heap.size ≤ k_)) (.slice A0_4 l0_4.length c0_4) l0_4))
  have HH := Aside0.mk h
  clear hs0_0 hs0_1 hs0_2 hs0_3 hs0_4 h
  go_enter Tryd.func83, Tryd.ntmps83
  go_wp2_with (first | ((with_reducible refine gate_dst (N := 2) rfl ?_); refine box_event ?hg (N := 2) ?hd (cs := #[.slice A0_0 l0_0.length c0_0, .slice A0_1 l0_1.length c0_1, .slice A0_2 l0_2.length c0_2, .slice A0_3 l0_3.length c0_3, .slice A0_4 l0_4.length c0_4]) (t := 80) ?hr ?_; (case hd => rfl); (case hg => rfl); (case hr => first | (go_simp; done) | (go_simp; rfl)); intro gb hg w4 hbox hb; have HB4 := Aside0.mk hb; have HK4 := Aside0.mk hbox; clear hb hg hbox) | (go_at_call 110; refine (parts_calls _).mono ?_; rintro e w5 ⟨gp, rfl, hge, hbk, hb⟩; have HK5 := Aside0.mk (blk_below HK4.out hb); have HP5 := Aside0.mk hbk; have HB5 := Aside0.mk (below_step HB4.out hb); clear hb hbk hge))
  go_loopg [10] 5 (fun kq v10 w' => ∃ i : Nat, v10 = .int .i64 (i : Int) ∧ Aside0 (i ≤ 5 ∧ kq + i = 5) ∧ Aside0 ((1 ≤ i → a1 ≠ 1) ∧ (2 ≤ i → a1 ≠ 4) ∧ (3 ≤ i → a1 ≠ 6) ∧ (4 ≤ i → a1 ≠ 7) ∧ (5 ≤ i → a1 ≠ 9)) ∧ Aside0 (w'.heap[gb]? = some (.cells #[.slice A0_0 l0_0.length c0_0, .slice A0_1 l0_1.length c0_1, .slice A0_2 l0_2.length c0_2, .slice A0_3 l0_3.length c0_3, .slice A0_4 l0_4.length c0_4] 80 (0, 0))) ∧ Aside0 (w'.heap[gp]? = some (.cells partCells 156 (0, 0))) ∧ Aside0 (Below w.heap.size w w'))
  case atStart => exact ⟨0, rfl, ⟨by omega, by omega⟩, ⟨by omega, by omega, by omega, by omega, by omega⟩, HK5, HP5, HB5⟩
  case round =>
    clear HK5 HP5 HB5 HK4 HB4
    obtain ⟨i, rfl, HI, HC, HK, HP, HB⟩ := hrel
    by_cases hlt : i < 5
    case neg =>
      obtain rfl : i = 5 := by have := HI.out; omega
      have hh := HH.out
      have hc := HC.out
      unfold phase_find.f at hh
      rw [if_neg (hc.1 (by omega)), if_neg (hc.2.1 (by omega)), if_neg (hc.2.2.1 (by omega)), if_neg (hc.2.2.2.1 (by omega)), if_neg (hc.2.2.2.2 (by omega))] at hh
      obtain ⟨rfl, rfl⟩ := Prod.mk.inj (Option.some.inj hh)
      clear hh hc HC HH hlt
      go_wp2
      go_ret2
      exact ⟨_, rfl, Kd.V_nil _ _ _ _ _, HB.out⟩
    have c : i = 0 ∨ i = 1 ∨ i = 2 ∨ i = 3 ∨ i = 4 := by omega
    clear hlt
    rcases c with rfl | rfl | rfl | rfl | rfl
    · have hk0 : wr.cell? ⟨gp, 0, none⟩ = some (.int .i64 1) := (blk_cell HP.out 0).trans rfl
      have hk1 : wr.cell? ⟨gp, 1, none⟩ = some (.func (.func 142) #[] #[]) := (blk_cell HP.out 1).trans rfl
      have hq0 : wr.cell? ⟨gb, 0, none⟩ = some (.slice A0_0 l0_0.length c0_0) := (blk_cell HK.out 0).trans rfl
      have hq1 : wr.cell? ⟨gb, 1, none⟩ = some (.slice A0_1 l0_1.length c0_1) := (blk_cell HK.out 1).trans rfl
      have hq2 : wr.cell? ⟨gb, 2, none⟩ = some (.slice A0_2 l0_2.length c0_2) := (blk_cell HK.out 2).trans rfl
      have hq3 : wr.cell? ⟨gb, 3, none⟩ = some (.slice A0_3 l0_3.length c0_3) := (blk_cell HK.out 3).trans rfl
      have hq4 : wr.cell? ⟨gb, 4, none⟩ = some (.slice A0_4 l0_4.length c0_4) := (blk_cell HK.out 4).trans rfl
      by_cases ce : a1 = 1
      · subst ce
        have hh := HH.out
        unfold phase_find.f at hh
        simp at hh
        obtain ⟨rfl, rfl⟩ := hh
        clear HH HC
        go_wp2_with (first | ((with_reducible refine gate_dst (N := 7) rfl ?_); refine box_event ?hg (N := 7) ?hd (cs := #[.int .i64 0, .nilFunc]) (t := 156) ?hr ?_; (case hd => rfl); (case hg => rfl); (case hr => first | (go_simp; done) | (go_simp; rfl)); intro gx hgx w6 hbox hb; have HB6 := Aside0.mk (below_step HB.out hb); have HK6 := Aside0.mk (blk_below HK.out hb); have HP6 := Aside0.mk (blk_below HP.out hb); have GEX := Aside0.mk (show w.heap.size ≤ gx by rw [hgx]; exact below_size HB.out); have hne1 : ¬ gx = gb := (by have := blk_lt HK.out; omega); have hne2 : ¬ gb = gx := (fun e => hne1 e.symm); have hne3 : ¬ gx = gp := (by have := blk_lt HP.out; omega); have hne4 : ¬ gp = gx := (fun e => hne3 e.symm); have hx0 : w6.cell? ⟨gx, 0, none⟩ = some (.int .i64 0) := (blk_cell hbox 0).trans rfl; have hx1 : w6.cell? ⟨gx, 1, none⟩ = some .nilFunc := (blk_cell hbox 1).trans rfl; have hf0 := blk_frozen hbox 0; have hf1 := blk_frozen hbox 1; replace hk0 := pw_cell_below hb hk0; replace hk1 := pw_cell_below hb hk1; replace hq0 := pw_cell_below hb hq0; replace hq1 := pw_cell_below hb hq1; replace hq2 := pw_cell_below hb hq2; replace hq3 := pw_cell_below hb hq3; replace hq4 := pw_cell_below hb hq4; clear hb hbox hgx) | (go_at_call 142; refine (part_lit0 A0_0 A0_1 A0_2 A0_3 A0_4 l0_0.length l0_1.length l0_2.length l0_3.length l0_4.length c0_0 c0_1 c0_2 c0_3 c0_4 _).mono ?_; rintro e w7 ⟨rfl, hb⟩; have HB7 := Aside0.mk (below_step (below_set (below_set HB6.out GEX.out) GEX.out) hb); clear hb))
        go_ret2
        exact ⟨_, rfl, HV0.out _ HB7.out, HB7.out⟩
      have ce0 : ((1 : Int) == a1) = false := beq_eq_false_iff_ne.mpr (fun e => ce e.symm)
      have HC2 : Aside0 ((1 ≤ 1 → a1 ≠ 1) ∧ (2 ≤ 1 → a1 ≠ 4) ∧ (3 ≤ 1 → a1 ≠ 6) ∧ (4 ≤ 1 → a1 ≠ 7) ∧ (5 ≤ 1 → a1 ≠ 9)) := ⟨by have := HC.out; omega⟩
      clear ce HC
      go_wp2_with (first | ((with_reducible refine gate_dst (N := 7) rfl ?_); refine box_event ?hg (N := 7) ?hd (cs := #[.int .i64 0, .nilFunc]) (t := 156) ?hr ?_; (case hd => rfl); (case hg => rfl); (case hr => first | (go_simp; done) | (go_simp; rfl)); intro gx hgx w6 hbox hb; have HB6 := Aside0.mk (below_step HB.out hb); have HK6 := Aside0.mk (blk_below HK.out hb); have HP6 := Aside0.mk (blk_below HP.out hb); have GEX := Aside0.mk (show w.heap.size ≤ gx by rw [hgx]; exact below_size HB.out); have hne1 : ¬ gx = gb := (by have := blk_lt HK.out; omega); have hne2 : ¬ gb = gx := (fun e => hne1 e.symm); have hne3 : ¬ gx = gp := (by have := blk_lt HP.out; omega); have hne4 : ¬ gp = gx := (fun e => hne3 e.symm); have hx0 : w6.cell? ⟨gx, 0, none⟩ = some (.int .i64 0) := (blk_cell hbox 0).trans rfl; have hx1 : w6.cell? ⟨gx, 1, none⟩ = some .nilFunc := (blk_cell hbox 1).trans rfl; have hf0 := blk_frozen hbox 0; have hf1 := blk_frozen hbox 1; replace hk0 := pw_cell_below hb hk0; replace hk1 := pw_cell_below hb hk1; replace hq0 := pw_cell_below hb hq0; replace hq1 := pw_cell_below hb hq1; replace hq2 := pw_cell_below hb hq2; replace hq3 := pw_cell_below hb hq3; replace hq4 := pw_cell_below hb hq4; clear hb hbox hgx))
      go_roundg 4
      case measure => have := HI.out; omega
      case rel => exact ⟨1, by first | rfl | (simp; done), ⟨by omega, by omega⟩, HC2, ⟨blk_far (blk_far HK6.out hne2 _) hne2 _⟩, ⟨blk_far (blk_far HP6.out hne4 _) hne4 _⟩, ⟨below_set (below_set HB6.out GEX.out) GEX.out⟩⟩
    · have hk0 : wr.cell? ⟨gp, 2, none⟩ = some (.int .i64 4) := (blk_cell HP.out 2).trans rfl
      have hk1 : wr.cell? ⟨gp, 3, none⟩ = some (.func (.func 143) #[] #[]) := (blk_cell HP.out 3).trans rfl
      have hq0 : wr.cell? ⟨gb, 0, none⟩ = some (.slice A0_0 l0_0.length c0_0) := (blk_cell HK.out 0).trans rfl
      have hq1 : wr.cell? ⟨gb, 1, none⟩ = some (.slice A0_1 l0_1.length c0_1) := (blk_cell HK.out 1).trans rfl
      have hq2 : wr.cell? ⟨gb, 2, none⟩ = some (.slice A0_2 l0_2.length c0_2) := (blk_cell HK.out 2).trans rfl
      have hq3 : wr.cell? ⟨gb, 3, none⟩ = some (.slice A0_3 l0_3.length c0_3) := (blk_cell HK.out 3).trans rfl
      have hq4 : wr.cell? ⟨gb, 4, none⟩ = some (.slice A0_4 l0_4.length c0_4) := (blk_cell HK.out 4).trans rfl
      by_cases ce : a1 = 4
      · subst ce
        have hh := HH.out
        unfold phase_find.f at hh
        simp at hh
        obtain ⟨rfl, rfl⟩ := hh
        clear HH HC
        go_wp2_with (first | ((with_reducible refine gate_dst (N := 7) rfl ?_); refine box_event ?hg (N := 7) ?hd (cs := #[.int .i64 0, .nilFunc]) (t := 156) ?hr ?_; (case hd => rfl); (case hg => rfl); (case hr => first | (go_simp; done) | (go_simp; rfl)); intro gx hgx w6 hbox hb; have HB6 := Aside0.mk (below_step HB.out hb); have HK6 := Aside0.mk (blk_below HK.out hb); have HP6 := Aside0.mk (blk_below HP.out hb); have GEX := Aside0.mk (show w.heap.size ≤ gx by rw [hgx]; exact below_size HB.out); have hne1 : ¬ gx = gb := (by have := blk_lt HK.out; omega); have hne2 : ¬ gb = gx := (fun e => hne1 e.symm); have hne3 : ¬ gx = gp := (by have := blk_lt HP.out; omega); have hne4 : ¬ gp = gx := (fun e => hne3 e.symm); have hx0 : w6.cell? ⟨gx, 0, none⟩ = some (.int .i64 0) := (blk_cell hbox 0).trans rfl; have hx1 : w6.cell? ⟨gx, 1, none⟩ = some .nilFunc := (blk_cell hbox 1).trans rfl; have hf0 := blk_frozen hbox 0; have hf1 := blk_frozen hbox 1; replace hk0 := pw_cell_below hb hk0; replace hk1 := pw_cell_below hb hk1; replace hq0 := pw_cell_below hb hq0; replace hq1 := pw_cell_below hb hq1; replace hq2 := pw_cell_below hb hq2; replace hq3 := pw_cell_below hb hq3; replace hq4 := pw_cell_below hb hq4; clear hb hbox hgx) | (go_at_call 143; refine (part_lit1 A0_0 A0_1 A0_2 A0_3 A0_4 l0_0.length l0_1.length l0_2.length l0_3.length l0_4.length c0_0 c0_1 c0_2 c0_3 c0_4 _).mono ?_; rintro e w7 ⟨rfl, hb⟩; have HB7 := Aside0.mk (below_step (below_set (below_set HB6.out GEX.out) GEX.out) hb); clear hb))
        go_ret2
        exact ⟨_, rfl, HV1.out _ HB7.out, HB7.out⟩
      have ce0 : ((4 : Int) == a1) = false := beq_eq_false_iff_ne.mpr (fun e => ce e.symm)
      have HC2 : Aside0 ((1 ≤ 2 → a1 ≠ 1) ∧ (2 ≤ 2 → a1 ≠ 4) ∧ (3 ≤ 2 → a1 ≠ 6) ∧ (4 ≤ 2 → a1 ≠ 7) ∧ (5 ≤ 2 → a1 ≠ 9)) := ⟨by have := HC.out; omega⟩
      clear ce HC
      go_wp2_with (first | ((with_reducible refine gate_dst (N := 7) rfl ?_); refine box_event ?hg (N := 7) ?hd (cs := #[.int .i64 0, .nilFunc]) (t := 156) ?hr ?_; (case hd => rfl); (case hg => rfl); (case hr => first | (go_simp; done) | (go_simp; rfl)); intro gx hgx w6 hbox hb; have HB6 := Aside0.mk (below_step HB.out hb); have HK6 := Aside0.mk (blk_below HK.out hb); have HP6 := Aside0.mk (blk_below HP.out hb); have GEX := Aside0.mk (show w.heap.size ≤ gx by rw [hgx]; exact below_size HB.out); have hne1 : ¬ gx = gb := (by have := blk_lt HK.out; omega); have hne2 : ¬ gb = gx := (fun e => hne1 e.symm); have hne3 : ¬ gx = gp := (by have := blk_lt HP.out; omega); have hne4 : ¬ gp = gx := (fun e => hne3 e.symm); have hx0 : w6.cell? ⟨gx, 0, none⟩ = some (.int .i64 0) := (blk_cell hbox 0).trans rfl; have hx1 : w6.cell? ⟨gx, 1, none⟩ = some .nilFunc := (blk_cell hbox 1).trans rfl; have hf0 := blk_frozen hbox 0; have hf1 := blk_frozen hbox 1; replace hk0 := pw_cell_below hb hk0; replace hk1 := pw_cell_below hb hk1; replace hq0 := pw_cell_below hb hq0; replace hq1 := pw_cell_below hb hq1; replace hq2 := pw_cell_below hb hq2; replace hq3 := pw_cell_below hb hq3; replace hq4 := pw_cell_below hb hq4; clear hb hbox hgx))
      go_roundg 3
      case measure => have := HI.out; omega
      case rel => exact ⟨2, by first | rfl | (simp; done), ⟨by omega, by omega⟩, HC2, ⟨blk_far (blk_far HK6.out hne2 _) hne2 _⟩, ⟨blk_far (blk_far HP6.out hne4 _) hne4 _⟩, ⟨below_set (below_set HB6.out GEX.out) GEX.out⟩⟩
    · have hk0 : wr.cell? ⟨gp, 4, none⟩ = some (.int .i64 6) := (blk_cell HP.out 4).trans rfl
      have hk1 : wr.cell? ⟨gp, 5, none⟩ = some (.func (.func 144) #[] #[]) := (blk_cell HP.out 5).trans rfl
      have hq0 : wr.cell? ⟨gb, 0, none⟩ = some (.slice A0_0 l0_0.length c0_0) := (blk_cell HK.out 0).trans rfl
      have hq1 : wr.cell? ⟨gb, 1, none⟩ = some (.slice A0_1 l0_1.length c0_1) := (blk_cell HK.out 1).trans rfl
      have hq2 : wr.cell? ⟨gb, 2, none⟩ = some (.slice A0_2 l0_2.length c0_2) := (blk_cell HK.out 2).trans rfl
      have hq3 : wr.cell? ⟨gb, 3, none⟩ = some (.slice A0_3 l0_3.length c0_3) := (blk_cell HK.out 3).trans rfl
      have hq4 : wr.cell? ⟨gb, 4, none⟩ = some (.slice A0_4 l0_4.length c0_4) := (blk_cell HK.out 4).trans rfl
      by_cases ce : a1 = 6
      · subst ce
        have hh := HH.out
        unfold phase_find.f at hh
        simp at hh
        obtain ⟨rfl, rfl⟩ := hh
        clear HH HC
        go_wp2_with (first | ((with_reducible refine gate_dst (N := 7) rfl ?_); refine box_event ?hg (N := 7) ?hd (cs := #[.int .i64 0, .nilFunc]) (t := 156) ?hr ?_; (case hd => rfl); (case hg => rfl); (case hr => first | (go_simp; done) | (go_simp; rfl)); intro gx hgx w6 hbox hb; have HB6 := Aside0.mk (below_step HB.out hb); have HK6 := Aside0.mk (blk_below HK.out hb); have HP6 := Aside0.mk (blk_below HP.out hb); have GEX := Aside0.mk (show w.heap.size ≤ gx by rw [hgx]; exact below_size HB.out); have hne1 : ¬ gx = gb := (by have := blk_lt HK.out; omega); have hne2 : ¬ gb = gx := (fun e => hne1 e.symm); have hne3 : ¬ gx = gp := (by have := blk_lt HP.out; omega); have hne4 : ¬ gp = gx := (fun e => hne3 e.symm); have hx0 : w6.cell? ⟨gx, 0, none⟩ = some (.int .i64 0) := (blk_cell hbox 0).trans rfl; have hx1 : w6.cell? ⟨gx, 1, none⟩ = some .nilFunc := (blk_cell hbox 1).trans rfl; have hf0 := blk_frozen hbox 0; have hf1 := blk_frozen hbox 1; replace hk0 := pw_cell_below hb hk0; replace hk1 := pw_cell_below hb hk1; replace hq0 := pw_cell_below hb hq0; replace hq1 := pw_cell_below hb hq1; replace hq2 := pw_cell_below hb hq2; replace hq3 := pw_cell_below hb hq3; replace hq4 := pw_cell_below hb hq4; clear hb hbox hgx) | (go_at_call 144; refine (part_lit2 A0_0 A0_1 A0_2 A0_3 A0_4 l0_0.length l0_1.length l0_2.length l0_3.length l0_4.length c0_0 c0_1 c0_2 c0_3 c0_4 _).mono ?_; rintro e w7 ⟨rfl, hb⟩; have HB7 := Aside0.mk (below_step (below_set (below_set HB6.out GEX.out) GEX.out) hb); clear hb))
        go_ret2
        exact ⟨_, rfl, HV2.out _ HB7.out, HB7.out⟩
      have ce0 : ((6 : Int) == a1) = false := beq_eq_false_iff_ne.mpr (fun e => ce e.symm)
      have HC2 : Aside0 ((1 ≤ 3 → a1 ≠ 1) ∧ (2 ≤ 3 → a1 ≠ 4) ∧ (3 ≤ 3 → a1 ≠ 6) ∧ (4 ≤ 3 → a1 ≠ 7) ∧ (5 ≤ 3 → a1 ≠ 9)) := ⟨by have := HC.out; omega⟩
      clear ce HC
      go_wp2_with (first | ((with_reducible refine gate_dst (N := 7) rfl ?_); refine box_event ?hg (N := 7) ?hd (cs := #[.int .i64 0, .nilFunc]) (t := 156) ?hr ?_; (case hd => rfl); (case hg => rfl); (case hr => first | (go_simp; done) | (go_simp; rfl)); intro gx hgx w6 hbox hb; have HB6 := Aside0.mk (below_step HB.out hb); have HK6 := Aside0.mk (blk_below HK.out hb); have HP6 := Aside0.mk (blk_below HP.out hb); have GEX := Aside0.mk (show w.heap.size ≤ gx by rw [hgx]; exact below_size HB.out); have hne1 : ¬ gx = gb := (by have := blk_lt HK.out; omega); have hne2 : ¬ gb = gx := (fun e => hne1 e.symm); have hne3 : ¬ gx = gp := (by have := blk_lt HP.out; omega); have hne4 : ¬ gp = gx := (fun e => hne3 e.symm); have hx0 : w6.cell? ⟨gx, 0, none⟩ = some (.int .i64 0) := (blk_cell hbox 0).trans rfl; have hx1 : w6.cell? ⟨gx, 1, none⟩ = some .nilFunc := (blk_cell hbox 1).trans rfl; have hf0 := blk_frozen hbox 0; have hf1 := blk_frozen hbox 1; replace hk0 := pw_cell_below hb hk0; replace hk1 := pw_cell_below hb hk1; replace hq0 := pw_cell_below hb hq0; replace hq1 := pw_cell_below hb hq1; replace hq2 := pw_cell_below hb hq2; replace hq3 := pw_cell_below hb hq3; replace hq4 := pw_cell_below hb hq4; clear hb hbox hgx))
      go_roundg 2
      case measure => have := HI.out; omega
      case rel => exact ⟨3, by first | rfl | (simp; done), ⟨by omega, by omega⟩, HC2, ⟨blk_far (blk_far HK6.out hne2 _) hne2 _⟩, ⟨blk_far (blk_far HP6.out hne4 _) hne4 _⟩, ⟨below_set (below_set HB6.out GEX.out) GEX.out⟩⟩
    · have hk0 : wr.cell? ⟨gp, 6, none⟩ = some (.int .i64 7) := (blk_cell HP.out 6).trans rfl
      have hk1 : wr.cell? ⟨gp, 7, none⟩ = some (.func (.func 145) #[] #[]) := (blk_cell HP.out 7).trans rfl
      have hq0 : wr.cell? ⟨gb, 0, none⟩ = some (.slice A0_0 l0_0.length c0_0) := (blk_cell HK.out 0).trans rfl
      have hq1 : wr.cell? ⟨gb, 1, none⟩ = some (.slice A0_1 l0_1.length c0_1) := (blk_cell HK.out 1).trans rfl
      have hq2 : wr.cell? ⟨gb, 2, none⟩ = some (.slice A0_2 l0_2.length c0_2) := (blk_cell HK.out 2).trans rfl
      have hq3 : wr.cell? ⟨gb, 3, none⟩ = some (.slice A0_3 l0_3.length c0_3) := (blk_cell HK.out 3).trans rfl
      have hq4 : wr.cell? ⟨gb, 4, none⟩ = some (.slice A0_4 l0_4.length c0_4) := (blk_cell HK.out 4).trans rfl
      by_cases ce : a1 = 7
      · subst ce
        have hh := HH.out
        unfold phase_find.f at hh
        simp at hh
        obtain ⟨rfl, rfl⟩ := hh
        clear HH HC
        go_wp2_with (first | ((with_reducible refine gate_dst (N := 7) rfl ?_); refine box_event ?hg (N := 7) ?hd (cs := #[.int .i64 0, .nilFunc]) (t := 156) ?hr ?_; (case hd => rfl); (case hg => rfl); (case hr => first | (go_simp; done) | (go_simp; rfl)); intro gx hgx w6 hbox hb; have HB6 := Aside0.mk (below_step HB.out hb); have HK6 := Aside0.mk (blk_below HK.out hb); have HP6 := Aside0.mk (blk_below HP.out hb); have GEX := Aside0.mk (show w.heap.size ≤ gx by rw [hgx]; exact below_size HB.out); have hne1 : ¬ gx = gb := (by have := blk_lt HK.out; omega); have hne2 : ¬ gb = gx := (fun e => hne1 e.symm); have hne3 : ¬ gx = gp := (by have := blk_lt HP.out; omega); have hne4 : ¬ gp = gx := (fun e => hne3 e.symm); have hx0 : w6.cell? ⟨gx, 0, none⟩ = some (.int .i64 0) := (blk_cell hbox 0).trans rfl; have hx1 : w6.cell? ⟨gx, 1, none⟩ = some .nilFunc := (blk_cell hbox 1).trans rfl; have hf0 := blk_frozen hbox 0; have hf1 := blk_frozen hbox 1; replace hk0 := pw_cell_below hb hk0; replace hk1 := pw_cell_below hb hk1; replace hq0 := pw_cell_below hb hq0; replace hq1 := pw_cell_below hb hq1; replace hq2 := pw_cell_below hb hq2; replace hq3 := pw_cell_below hb hq3; replace hq4 := pw_cell_below hb hq4; clear hb hbox hgx) | (go_at_call 145; refine (part_lit3 A0_0 A0_1 A0_2 A0_3 A0_4 l0_0.length l0_1.length l0_2.length l0_3.length l0_4.length c0_0 c0_1 c0_2 c0_3 c0_4 _).mono ?_; rintro e w7 ⟨rfl, hb⟩; have HB7 := Aside0.mk (below_step (below_set (below_set HB6.out GEX.out) GEX.out) hb); clear hb))
        go_ret2
        exact ⟨_, rfl, HV3.out _ HB7.out, HB7.out⟩
      have ce0 : ((7 : Int) == a1) = false := beq_eq_false_iff_ne.mpr (fun e => ce e.symm)
      have HC2 : Aside0 ((1 ≤ 4 → a1 ≠ 1) ∧ (2 ≤ 4 → a1 ≠ 4) ∧ (3 ≤ 4 → a1 ≠ 6) ∧ (4 ≤ 4 → a1 ≠ 7) ∧ (5 ≤ 4 → a1 ≠ 9)) := ⟨by have := HC.out; omega⟩
      clear ce HC
      go_wp2_with (first | ((with_reducible refine gate_dst (N := 7) rfl ?_); refine box_event ?hg (N := 7) ?hd (cs := #[.int .i64 0, .nilFunc]) (t := 156) ?hr ?_; (case hd => rfl); (case hg => rfl); (case hr => first | (go_simp; done) | (go_simp; rfl)); intro gx hgx w6 hbox hb; have HB6 := Aside0.mk (below_step HB.out hb); have HK6 := Aside0.mk (blk_below HK.out hb); have HP6 := Aside0.mk (blk_below HP.out hb); have GEX := Aside0.mk (show w.heap.size ≤ gx by rw [hgx]; exact below_size HB.out); have hne1 : ¬ gx = gb := (by have := blk_lt HK.out; omega); have hne2 : ¬ gb = gx := (fun e => hne1 e.symm); have hne3 : ¬ gx = gp := (by have := blk_lt HP.out; omega); have hne4 : ¬ gp = gx := (fun e => hne3 e.symm); have hx0 : w6.cell? ⟨gx, 0, none⟩ = some (.int .i64 0) := (blk_cell hbox 0).trans rfl; have hx1 : w6.cell? ⟨gx, 1, none⟩ = some .nilFunc := (blk_cell hbox 1).trans rfl; have hf0 := blk_frozen hbox 0; have hf1 := blk_frozen hbox 1; replace hk0 := pw_cell_below hb hk0; replace hk1 := pw_cell_below hb hk1; replace hq0 := pw_cell_below hb hq0; replace hq1 := pw_cell_below hb hq1; replace hq2 := pw_cell_below hb hq2; replace hq3 := pw_cell_below hb hq3; replace hq4 := pw_cell_below hb hq4; clear hb hbox hgx))
      go_roundg 1
      case measure => have := HI.out; omega
      case rel => exact ⟨4, by first | rfl | (simp; done), ⟨by omega, by omega⟩, HC2, ⟨blk_far (blk_far HK6.out hne2 _) hne2 _⟩, ⟨blk_far (blk_far HP6.out hne4 _) hne4 _⟩, ⟨below_set (below_set HB6.out GEX.out) GEX.out⟩⟩
    have hk0 : wr.cell? ⟨gp, 8, none⟩ = some (.int .i64 9) := (blk_cell HP.out 8).trans rfl
    have hk1 : wr.cell? ⟨gp, 9, none⟩ = some (.func (.func 146) #[] #[]) := (blk_cell HP.out 9).trans rfl
    have hq0 : wr.cell? ⟨gb, 0, none⟩ = some (.slice A0_0 l0_0.length c0_0) := (blk_cell HK.out 0).trans rfl
    have hq1 : wr.cell? ⟨gb, 1, none⟩ = some (.slice A0_1 l0_1.length c0_1) := (blk_cell HK.out 1).trans rfl
    have hq2 : wr.cell? ⟨gb, 2, none⟩ = some (.slice A0_2 l0_2.length c0_2) := (blk_cell HK.out 2).trans rfl
    have hq3 : wr.cell? ⟨gb, 3, none⟩ = some (.slice A0_3 l0_3.length c0_3) := (blk_cell HK.out 3).trans rfl
    have hq4 : wr.cell? ⟨gb, 4, none⟩ = some (.slice A0_4 l0_4.length c0_4) := (blk_cell HK.out 4).trans rfl
    by_cases ce : a1 = 9
    · subst ce
      have hh := HH.out
      unfold phase_find.f at hh
      simp at hh
      obtain ⟨rfl, rfl⟩ := hh
      clear HH HC
      go_wp2_with (first | ((with_reducible refine gate_dst (N := 7) rfl ?_); refine box_event ?hg (N := 7) ?hd (cs := #[.int .i64 0, .nilFunc]) (t := 156) ?hr ?_; (case hd => rfl); (case hg => rfl); (case hr => first | (go_simp; done) | (go_simp; rfl)); intro gx hgx w6 hbox hb; have HB6 := Aside0.mk (below_step HB.out hb); have HK6 := Aside0.mk (blk_below HK.out hb); have HP6 := Aside0.mk (blk_below HP.out hb); have GEX := Aside0.mk (show w.heap.size ≤ gx by rw [hgx]; exact below_size HB.out); have hne1 : ¬ gx = gb := (by have := blk_lt HK.out; omega); have hne2 : ¬ gb = gx := (fun e => hne1 e.symm); have hne3 : ¬ gx = gp := (by have := blk_lt HP.out; omega); have hne4 : ¬ gp = gx := (fun e => hne3 e.symm); have hx0 : w6.cell? ⟨gx, 0, none⟩ = some (.int .i64 0) := (blk_cell hbox 0).trans rfl; have hx1 : w6.cell? ⟨gx, 1, none⟩ = some .nilFunc := (blk_cell hbox 1).trans rfl; have hf0 := blk_frozen hbox 0; have hf1 := blk_frozen hbox 1; replace hk0 := pw_cell_below hb hk0; replace hk1 := pw_cell_below hb hk1; replace hq0 := pw_cell_below hb hq0; replace hq1 := pw_cell_below hb hq1; replace hq2 := pw_cell_below hb hq2; replace hq3 := pw_cell_below hb hq3; replace hq4 := pw_cell_below hb hq4; clear hb hbox hgx) | (go_at_call 146; refine (part_lit4 A0_0 A0_1 A0_2 A0_3 A0_4 l0_0.length l0_1.length l0_2.length l0_3.length l0_4.length c0_0 c0_1 c0_2 c0_3 c0_4 _).mono ?_; rintro e w7 ⟨rfl, hb⟩; have HB7 := Aside0.mk (below_step (below_set (below_set HB6.out GEX.out) GEX.out) hb); clear hb))
      go_ret2
      exact ⟨_, rfl, HV4.out _ HB7.out, HB7.out⟩
    have ce0 : ((9 : Int) == a1) = false := beq_eq_false_iff_ne.mpr (fun e => ce e.symm)
    have HC2 : Aside0 ((1 ≤ 5 → a1 ≠ 1) ∧ (2 ≤ 5 → a1 ≠ 4) ∧ (3 ≤ 5 → a1 ≠ 6) ∧ (4 ≤ 5 → a1 ≠ 7) ∧ (5 ≤ 5 → a1 ≠ 9)) := ⟨by have := HC.out; omega⟩
    clear ce HC
    go_wp2_with (first | ((with_reducible refine gate_dst (N := 7) rfl ?_); refine box_event ?hg (N := 7) ?hd (cs := #[.int .i64 0, .nilFunc]) (t := 156) ?hr ?_; (case hd => rfl); (case hg => rfl); (case hr => first | (go_simp; done) | (go_simp; rfl)); intro gx hgx w6 hbox hb; have HB6 := Aside0.mk (below_step HB.out hb); have HK6 := Aside0.mk (blk_below HK.out hb); have HP6 := Aside0.mk (blk_below HP.out hb); have GEX := Aside0.mk (show w.heap.size ≤ gx by rw [hgx]; exact below_size HB.out); have hne1 : ¬ gx = gb := (by have := blk_lt HK.out; omega); have hne2 : ¬ gb = gx := (fun e => hne1 e.symm); have hne3 : ¬ gx = gp := (by have := blk_lt HP.out; omega); have hne4 : ¬ gp = gx := (fun e => hne3 e.symm); have hx0 : w6.cell? ⟨gx, 0, none⟩ = some (.int .i64 0) := (blk_cell hbox 0).trans rfl; have hx1 : w6.cell? ⟨gx, 1, none⟩ = some .nilFunc := (blk_cell hbox 1).trans rfl; have hf0 := blk_frozen hbox 0; have hf1 := blk_frozen hbox 1; replace hk0 := pw_cell_below hb hk0; replace hk1 := pw_cell_below hb hk1; replace hq0 := pw_cell_below hb hq0; replace hq1 := pw_cell_below hb hq1; replace hq2 := pw_cell_below hb hq2; replace hq3 := pw_cell_below hb hq3; replace hq4 := pw_cell_below hb hq4; clear hb hbox hgx))
    go_roundg 0
    case measure => have := HI.out; omega
    case rel => exact ⟨5, by first | rfl | (simp; done), ⟨by omega, by omega⟩, HC2, ⟨blk_far (blk_far HK6.out hne2 _) hne2 _⟩, ⟨blk_far (blk_far HP6.out hne4 _) hne4 _⟩, ⟨below_set (below_set HB6.out GEX.out) GEX.out⟩⟩
def namesAll : List S69 → Option Bool
  | [] => some true
  | c :: l => (lex_Name.f c.f0).bind fun t => if t = true then namesAll l else some false
theorem drop_T69 {l : List S69} {i : Int} (h0 : 0 ≤ i) (h1 : i < l.length) : l.drop i.toNat = rd_T69 l i :: l.drop (i + 1).toNat := by
  have h : i.toNat < l.length := by omega
  rw [show (i + 1).toNat = i.toNat + 1 from by omega, List.drop_eq_getElem_cons h]
  unfold rd_T69; rw [List.getD, List.getElem?_eq_getElem h]; rfl
set_option maxHeartbeats 4000000 in
set_option maxRecDepth 100000 in
theorem named_lit (s : ByteArray) (n : Int) (b : Bool) (w : World) (hT : UT w) (h : lex_Name.f s = some b) :
    Calls Tryd.prog 114 #[.agg #[.string s, .int .i64 n]] w fun e w' => e = .returned (.bool (!b)) ∧ Below w.heap.size w w' := by
  have hu69 := Tryd.underlying69
  have HT := Aside0.mk hT
  have HH := Aside0.mk h
  clear hT h
  go_enter Tryd.func114, Tryd.ntmps114
  go_wp2_with (first | ((with_reducible refine gate_dst (N := 1) rfl ?_); refine box_event ?hg (N := 1) ?hd (cs := #[.string s, .int .i64 n]) (t := 69) ?hr ?_; (case hd => rfl); (case hg => rfl); (case hr => first | (go_simp; done) | (go_simp; rfl)); intro gb hg w4 hbox hb; have HB4 := Aside0.mk hb; clear hb hg; have hcz0 : w4.cell? ⟨gb, 0, none⟩ = some (.string s) := (blk_cell hbox 0).trans rfl; clear hbox) | (go_at_call 91; refine (lex_Name.calls s b _ HH.out (UT.below HT.out HB4.out)).mono ?_; rintro e w5 ⟨rfl, hb⟩; have HB5 := Aside0.mk (below_step HB4.out hb); clear hb))
  go_ret
  exact ⟨rfl, HB5.out⟩
set_option maxHeartbeats 4000000 in
set_option maxRecDepth 100000 in
theorem IndexFunc_named (A0 : Option Addr) (c0 : Nat) (l0 : List S69) (b : Bool) (w : World) (hr0 : Kd.C k69 w A0 l0.length l0) (hc0 : l0.length ≤ c0) (hT : UT w) (h : namesAll l0 = some b) :
    Calls Tryd.prog 130 #[.slice A0 l0.length c0, .func (.func 114) #[] #[]] w fun e w' => (∃ j : Int, e = .returned (.int .i64 j) ∧ decide (0 ≤ j) = !b) ∧ Below w.heap.size w w' := by
  have hu69 := Tryd.underlying69
  have HR0 := Aside0.mk hr0
  have HC0 := Aside0.mk hc0
  have HT0 := Aside0.mk hT
  have HM := Aside0.mk hr0.2.1
  have HN := Aside0.mk h
  clear hr0 hc0 hT h
  go_enter Tryd.func130, Tryd.ntmps130
  go_wp2
  go_loopg [8] (l0.length) (fun kq v8 w' => ∃ x8 : Int, v8 = .int .i64 x8 ∧ Aside0 (0 ≤ x8 ∧ x8 ≤ (l0.length : Int) ∧ (kq : Int) = l0.length - x8 ∧ namesAll (l0.drop x8.toNat) = some b) ∧ Aside0 (Below w.heap.size w w'))
  case atStart => exact ⟨0, rfl, ⟨by omega, by omega, by omega, HN.out⟩, ⟨by first | exact Below.refl _ _ | exact pw_below_drewN (Below.refl _ _) _⟩⟩
  case round =>
    clear HN
    obtain ⟨x8, rfl, HI, HB⟩ := hrel
    by_cases hlt : x8 < (l0.length : Int)
    · have c3b0 : decide (x8 < (l0.length : Int)) = true := decide_eq_true hlt
      have p155 := HI.out.1
      have q155 := hlt
      have hd := drop_T69 p155 q155
      have hn := HI.out.2.2.2
      rw [hd] at hn
      have HI2 : Aside0 (0 ≤ x8 ∧ x8 < (l0.length : Int) ∧ (gk : Int) = l0.length - x8) := ⟨HI.out.1, hlt, HI.out.2.2.1⟩
      obtain ⟨ad, e1, y0, y1⟩ := at_T69 (Kd.C_below HR0.out HB.out) x8 p155 q155
      cases e1
      have c4b0 : decide (0 ≤ x8) = true := decide_eq_true p155
      replace p155 := eq_true p155
      replace q155 := eq_true q155
      clear hlt HI hd
      generalize rd_T69 l0 x8 = y at *
      unfold namesAll at hn
      obtain ⟨t, ht, hn⟩ := Option.bind_eq_some_iff.mp hn
      have HX := Aside0.mk (named_lit y.f0 y.f1 t wr (UT.below HT0.out HB.out) ht)
      have HNN := Aside0.mk hn
      clear ht hn
      cases t with
      | false =>
        have hb : b = false := by have := HNN.out; rw [if_neg (by decide)] at this; exact (Option.some.inj this).symm
        subst hb
        go_wp2_with (first | (go_at_call 114; refine HX.out.mono ?_; rintro e w' ⟨rfl, hb⟩; have HB2 := Aside0.mk (below_step HB.out hb); clear hb))
        go_ret
        exact ⟨⟨x8, rfl, c4b0⟩, HB2.out⟩
      | true =>
        have hn2 := HNN.out
        rw [if_pos rfl] at hn2
        have HN2 := Aside0.mk hn2
        clear HNN hn2
        go_wp2_with (first | (go_at_call 114; refine HX.out.mono ?_; rintro e w' ⟨rfl, hb⟩; have HB2 := Aside0.mk (below_step HB.out hb); clear hb))
        go_roundg (l0.length - (x8 + 1)).toNat
        case measure => have := HI2.out; omega
        case rel => exact ⟨x8 + 1, by rw [show wrap64 (x8 + 1) = x8 + 1 from by have := HI2.out; have := HM.out; unfold wrap64; omega], ⟨by have := HI2.out; omega, by have := HI2.out; omega, by have := HI2.out; omega, HN2.out⟩, HB2⟩
    have c3b0 : decide (x8 < (l0.length : Int)) = false := decide_eq_false hlt
    have hn := HI.out.2.2.2
    rw [List.drop_eq_nil_of_le (by have := HI.out; omega)] at hn
    have hb : b = true := (Option.some.inj hn).symm
    subst hb
    clear hlt HI hn
    go_wp2
    go_ret
    exact ⟨⟨-1, rfl, rfl⟩, HB.out⟩
set_option maxHeartbeats 4000000 in
set_option maxRecDepth 100000 in
theorem ContainsFunc_named (A0 : Option Addr) (c0 : Nat) (l0 : List S69) (b : Bool) (w : World) (hr0 : Kd.C k69 w A0 l0.length l0) (hc0 : l0.length ≤ c0) (hT : UT w) (h : namesAll l0 = some b) :
    Calls Tryd.prog 113 #[.slice A0 l0.length c0, .func (.func 114) #[] #[]] w fun e w' => e = .returned (.bool (!b)) ∧ Below w.heap.size w w' := by
  have HX := Aside0.mk (IndexFunc_named A0 c0 l0 b w hr0 hc0 hT h)
  clear hr0 hc0 hT h
  go_enter Tryd.func113, Tryd.ntmps113
  go_wp2_with (first | (go_at_call 130; refine HX.out.mono ?_; rintro e w' ⟨⟨j, rfl, hj⟩, hb⟩; have HB2 := Aside0.mk hb; clear hb))
  go_ret
  exact ⟨by first | rfl | (simp [hj]; done) | (simp [ge_iff_le, hj]; done), HB2.out⟩
def phase_named.f (l0 : List (S69)) : Option (Bool) := if (l0.length : Int) ≤ 4 then namesAll l0 else some false
set_option maxHeartbeats 4000000 in
set_option maxRecDepth 100000 in
theorem phase_named.calls (A0 : Option Addr) (c0 : Nat) (l0 : List (S69)) (r : Bool) (w : World) (hr0 : Kd.C k69 w A0 l0.length l0) (hc0 : l0.length ≤ c0) (h : phase_named.f l0 = some r) (hT : UT w) :
  Calls Tryd.prog 82 #[.slice A0 l0.length c0] w fun e w' => e = .returned (.bool r) ∧ Below w.heap.size w w' := by
 unfold phase_named.f at h
 by_cases hl : (l0.length : Int) ≤ 4
 ·rw [if_pos hl] at h
  have d1 : decide ((l0.length : Int) ≤ 4) = true := decide_eq_true hl
  have HX := Aside0.mk (ContainsFunc_named A0 c0 l0 r w hr0 hc0 hT h)
  clear hr0 hc0 hT h hl
  go_enter Tryd.func82, Tryd.ntmps82
  go_wp2_with (first | (go_at_call 113; refine HX.out.mono ?_; rintro e w' ⟨rfl, hb⟩; have HB2 := Aside0.mk hb; clear hb))
  go_ret
  exact ⟨by first | rfl | (simp; done), HB2.out⟩
 rw [if_neg hl] at h
 obtain rfl := Option.some.inj h
 have d1 : decide ((l0.length : Int) ≤ 4) = false := decide_eq_false hl
 clear hr0 hc0 hT h hl
 go_enter Tryd.func82, Tryd.ntmps82
 go_wp2
 go_ret
 exact ⟨rfl, by repeat (first | exact Below.refl _ _ | apply pw_below_drewN | apply below_drew1)⟩
end Go.Proofs.YtiaccdaeomaogaaDoor.F
