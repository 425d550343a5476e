/- Texts of one claim, slimmed and merged by slim.py. -/
import Derived.Lib.LazyBuf
import Derived.Test.YtiaccdaeomaogaaDoorA4
import Derived.Test.YtiaccdaeomaogaaDoorA6
import Derived.Test.YtiaccdaeomaogaaDoorA15
import Derived.Test.YtiaccdaeomaogaaDoorA18
import Derived.Test.YtiaccdaeomaogaaDoorA19
import Derived.Test.YtiaccdaeomaogaaDoorA20
import Derived.Test.YtiaccdaeomaogaaDoorA21
import Derived.Test.YtiaccdaeomaogaaDoorA22
namespace Go.Proofs.YtiaccdaeomaogaaDoor.F
open Go.RowKit Go.Proofs.YtiaccdaeomaogaaDoorW.PrintWords Go.Proofs.YtiaccdaeomaogaaDoorW.PrintLast Go.Proofs.YtiaccdaeomaogaaDoorW.PrintMore
attribute [local go_sem] max2_int min2_int max_two min_two max_three min_three max_four min_four   -- for this text's walks alone
set_option linter.unusedVariables false
set_option linter.unusedSimpArgs false
def phase_Scan.lead (a0 a1 a2 a3 a4 : Int) (a5 : Bool) (a6 : Int) (l7 : List S69) (wants : List S72) (done : Bool) : Option (Int × Int × Int × Int × Int × Bool × Int × (List (S69)) × (List (S72)) × Int) := if done = true then (chart_Done.f a0).bind fun d => (phase_in.f a0 a1 a2 a3 a4 a5 a6 l7 d.1).bind fun p => some (p.1, p.2.1, p.2.2.1, p.2.2.2.1, p.2.2.2.2.1, p.2.2.2.2.2.1, p.2.2.2.2.2.2.1, p.2.2.2.2.2.2.2, wants, 0) else some (a0, a1, a2, a3, a4, a5, a6, l7, wants, 0)
def phase_Scan.act (k : Nat) (l : List S67) (a0 a1 a2 a3 a4 : Int) (a5 : Bool) (a6 : Int) (l7 l2 : List S69) (mp ml : Int) : Option (Int × Int × Int × Int × Int × Bool × Int × (List (S69)) × (List (S72)) × Int) := if l7.length < 1000000000 ∧ l2.length < 1000000000 then (prog_Scan.f k l mp ml (l7 ++ l2)).bind fun s => if s.2.2.2.2 = 0 then (api_Cell_86.f l7).bind fun args => (if a0 = 1 then phase_Scan.lead a0 s.1 s.2.1 a3 a4 a5 a6 args s.2.2.1 s.2.2.2.1 else phase_Scan.lead a0 a1 a2 s.1 s.2.1 a5 a6 args s.2.2.1 s.2.2.2.1) else (phase_Fail.f a0 a1 a2 a3 a4 a5 a6 l7 s.2.2.2.2).bind fun p => some (p.1, p.2.1, p.2.2.1, p.2.2.2.1, p.2.2.2.2.1, p.2.2.2.2.2.1, p.2.2.2.2.2.2.1, p.2.2.2.2.2.2.2.1, ([] : List S72), 0) else none
def phase_Scan.f (k : Nat) (l0_0 l0_1 l0_2 l0_3 l0_4 : List S67) (a1_0 a1_1 a1_2 a1_3 a1_4 : Int) (a1_5 : Bool) (a1_6 : Int) (l1_7 l2 : List S69) : Option (Int × Int × Int × Int × Int × Bool × Int × (List (S69)) × (List (S72)) × Int) := (phase_Right.f k l0_0 l0_1 l0_2 l0_3 l0_4 a1_0 a1_1 a1_2 a1_3 a1_4 a1_5 a1_6 l1_7).bind fun ok => if ok = true then (if a1_0 = 2 then (phase_in.f a1_0 a1_1 a1_2 a1_3 a1_4 a1_5 a1_6 l1_7 3).bind fun p => some (p.1, p.2.1, p.2.2.1, p.2.2.2.1, p.2.2.2.2.1, p.2.2.2.2.2.1, p.2.2.2.2.2.2.1, p.2.2.2.2.2.2.2, ([] : List S72), 0) else (chart_Acting.f a1_0).bind fun ac => if ac = true then (phase_find.f l0_0 l0_1 l0_2 l0_3 l0_4 a1_0).bind fun q => (if a1_0 = 1 then phase_Scan.act k q.1 a1_0 a1_1 a1_2 a1_3 a1_4 a1_5 a1_6 l1_7 l2 a1_1 a1_2 else phase_Scan.act k q.1 a1_0 a1_1 a1_2 a1_3 a1_4 a1_5 a1_6 l1_7 l2 a1_3 a1_4) else (api_Cell_86.f l1_7).bind fun args => some (a1_0, a1_1, a1_2, a1_3, a1_4, a1_5, a1_6, args, ([] : List S72), 0)) else some (0, 0, 0, 0, 0, false, 0, ([] : List S69), ([] : List S72), 1)
theorem phase_Scan.act_mono (k : Nat) (l : List S67) (a0 a1 a2 a3 a4 : Int) (a5 : Bool) (a6 : Int) (l7 l2 : List S69) (mp ml : Int) : LeO (phase_Scan.act k l a0 a1 a2 a3 a4 a5 a6 l7 l2 mp ml) (phase_Scan.act (k + 1) l a0 a1 a2 a3 a4 a5 a6 l7 l2 mp ml) := by
 intro v h
 unfold phase_Scan.act at h ⊢
 split at h
 ·rename_i c
  rw [if_pos c]
  obtain ⟨s, h1, h2⟩ := Option.bind_eq_some_iff.mp h
  exact Option.bind_eq_some_iff.mpr ⟨s, prog_Scan.mono _ _ _ _ _ _ h1, h2⟩
 cases h
theorem phase_Scan.mono : ∀ a0 a1 a2 a3 a4 b0 b1 b2 b3 b4 b5 b6 b7 c0 k, LeO (phase_Scan.f k a0 a1 a2 a3 a4 b0 b1 b2 b3 b4 b5 b6 b7 c0) (phase_Scan.f (k + 1) a0 a1 a2 a3 a4 b0 b1 b2 b3 b4 b5 b6 b7 c0) := by
 intro a0 a1 a2 a3 a4 b0 b1 b2 b3 b4 b5 b6 b7 c0 k v h
 unfold phase_Scan.f at h ⊢
 obtain ⟨ok, h1, h2⟩ := Option.bind_eq_some_iff.mp h
 refine Option.bind_eq_some_iff.mpr ⟨ok, phase_Right.mono _ _ _ _ _ _ _ _ _ _ _ _ _ _ _ h1, ?_⟩
 split at h2
 ·rename_i c
  rw [if_pos c]
  split at h2
  ·rename_i c2
   rw [if_pos c2]; exact h2
  rename_i c2
  rw [if_neg c2]
  obtain ⟨ac, h3, h4⟩ := Option.bind_eq_some_iff.mp h2
  refine Option.bind_eq_some_iff.mpr ⟨ac, h3, ?_⟩
  split at h4
  ·rename_i c3
   rw [if_pos c3]
   obtain ⟨q, h5, h6⟩ := Option.bind_eq_some_iff.mp h4
   refine Option.bind_eq_some_iff.mpr ⟨q, h5, ?_⟩
   split at h6
   ·rename_i c4
    rw [if_pos c4]; exact phase_Scan.act_mono _ _ _ _ _ _ _ _ _ _ _ _ _ _ h6
   rename_i c4
   rw [if_neg c4]; exact phase_Scan.act_mono _ _ _ _ _ _ _ _ _ _ _ _ _ _ h6
  rename_i c3
  rw [if_neg c3]; exact h4
 rename_i c
 rw [if_neg c]; exact h2
set_option maxHeartbeats 8000000 in
set_option maxRecDepth 100000 in
theorem Scan_bad (k : Nat) (A0_0 : Option Addr) (c0_0 : Nat) (l0_0 : List (S67)) (A0_1 : Option Addr) (c0_1 : Nat) (l0_1 : List (S67)) (A0_2 : Option Addr) (c0_2 : Nat) (l0_2 : List (S67)) (A0_3 : Option Addr) (c0_3 : Nat) (l0_3 : List (S67)) (A0_4 : Option Addr) (c0_4 : Nat) (l0_4 : List (S67)) (a1_0 : Int) (a1_1 : Int) (a1_2 : Int) (a1_3 : Int) (a1_4 : Int) (a1_5 : Bool) (a1_6 : Int) (A1_7 : Option Addr) (c1_7 : Nat) (l1_7 : List (S69)) (A2 : Option Addr) (c2 : Nat) (l2 : List (S69)) (w : World) (hr0_0 : Kd.C k67 w A0_0 l0_0.length l0_0) (hc0_0 : l0_0.length ≤ c0_0) (hr0_1 : Kd.C k67 w A0_1 l0_1.length l0_1) (hc0_1 : l0_1.length ≤ c0_1) (hr0_2 : Kd.C k67 w A0_2 l0_2.length l0_2) (hc0_2 : l0_2.length ≤ c0_2) (hr0_3 : Kd.C k67 w A0_3 l0_3.length l0_3) (hc0_3 : l0_3.length ≤ c0_3) (hr0_4 : Kd.C k67 w A0_4 l0_4.length l0_4) (hc0_4 : l0_4.length ≤ c0_4) (hr1_7 : Kd.C k69 w A1_7 l1_7.length l1_7) (hc1_7 : l1_7.length ≤ c1_7) (hr2 : Kd.C k69 w A2 l2.length l2) (hc2 : l2.length ≤ c2) (hR : phase_Right.f k l0_0 l0_1 l0_2 l0_3 l0_4 a1_0 a1_1 a1_2 a1_3 a1_4 a1_5 a1_6 l1_7 = some false) (hT : UT w) :
    Calls Tryd.prog 56 #[.agg #[.slice A0_0 l0_0.length c0_0, .slice A0_1 l0_1.length c0_1, .slice A0_2 l0_2.length c0_2, .slice A0_3 l0_3.length c0_3, .slice A0_4 l0_4.length c0_4], .agg #[.int .i64 a1_0, .int .i64 a1_1, .int .i64 a1_2, .int .i64 a1_3, .int .i64 a1_4, .bool a1_5, .int .i64 a1_6, .slice A1_7 l1_7.length c1_7], .slice A2 l2.length c2] w fun e w' => ∃ v7_ v8_ : Value, e = .returned (.tuple #[.agg #[.int .i64 0, .int .i64 0, .int .i64 0, .int .i64 0, .int .i64 0, .bool false, .int .i64 0, v7_], v8_, .int .i64 1]) ∧ Kd.R k69 69 w' w.heap.size (fun _ => True) v7_ ([] : List (S69)) ∧ Kd.R k72 72 w' w.heap.size (fun _ => True) v8_ ([] : List (S72)) ∧ Below w.heap.size w w' := by
  have hu82 := Tryd.underlying82
  have hu57 := Tryd.underlying57
  have hu80 := Tryd.underlying80
  have HB0 := Aside0.mk (Below.refl w.heap.size w)
  have HT0 := Aside0.mk hT
  have HR0_0 := Aside0.mk hr0_0
  have HR0_1 := Aside0.mk hr0_1
  have HR0_2 := Aside0.mk hr0_2
  have HR0_3 := Aside0.mk hr0_3
  have HR0_4 := Aside0.mk hr0_4
  have HC0_0 := Aside0.mk hc0_0
  have HC0_1 := Aside0.mk hc0_1
  have HC0_2 := Aside0.mk hc0_2
  have HC0_3 := Aside0.mk hc0_3
  have HC0_4 := Aside0.mk hc0_4
  have HR1_7 := Aside0.mk hr1_7
  have HC1_7 := Aside0.mk hc1_7
  have HR2 := Aside0.mk hr2
  have HC2 := Aside0.mk hc2
  clear hT hr0_0 hc0_0 hr0_1 hc0_1 hr0_2 hc0_2 hr0_3 hc0_3 hr0_4 hc0_4 hr1_7 hc1_7 hr2 hc2
  have HRT := Aside0.mk hR
  clear hR
  go_enter Tryd.func56, Tryd.ntmps56
  go_wp2_with (first | ((with_reducible refine gate_dst (N := 3) rfl ?_); refine box_event ?hg (N := 3) ?hd (cs := #[.slice A0_0 l0_0.length c0_0, .slice A0_1 l0_1.length c0_1, .slice A0_2 l0_2.length c0_2, .slice A0_3 l0_3.length c0_3, .slice A0_4 l0_4.length c0_4]) (t := 80) ?hr ?_; (case hd => rfl); (case hg => rfl); (case hr => first | (go_simp; done) | (go_simp; rfl)); intro gp hg w1 hbox hb; have GE_gp : Aside0 (w.heap.size ≤ gp) := ⟨by rw [hg]; exact below_size HB0.out⟩; have HB1 := Aside0.mk (below_step HB0.out hb); have BK1_gp := Aside0.mk hbox; clear hbox hb hg) | ((with_reducible refine gate_dst (N := 4) rfl ?_); refine box_event ?hg (N := 4) ?hd (cs := #[.int .i64 a1_0, .int .i64 a1_1, .int .i64 a1_2, .int .i64 a1_3, .int .i64 a1_4, .bool a1_5, .int .i64 a1_6, .slice A1_7 l1_7.length c1_7]) (t := 82) ?hr ?_; (case hd => rfl); (case hg => rfl); (case hr => first | (go_simp; done) | (go_simp; rfl)); intro gx hg w2 hbox hb; have GE_gx : Aside0 (w.heap.size ≤ gx) := ⟨by rw [hg]; exact below_size HB1.out⟩; have NE_gp_gx : Aside0 (gp ≠ gx) := ⟨by have h_ := blk_lt BK1_gp.out; omega⟩; have NE_gx_gp : Aside0 (gx ≠ gp) := ⟨fun h_ => NE_gp_gx.out h_.symm⟩; have HB2 := Aside0.mk (below_step HB1.out hb); have BK2_gp := Aside0.mk (blk_below BK1_gp.out hb); have BK2_gx := Aside0.mk hbox; clear hbox hb hg; have hc2_gx_0 : w2.cell? ⟨gx, 0, none⟩ = some (.int .i64 a1_0) := (blk_cell BK2_gx.out 0).trans rfl; have hc2_gx_7 : w2.cell? ⟨gx, 7, none⟩ = some (.slice A1_7 l1_7.length c1_7) := (blk_cell BK2_gx.out 7).trans rfl) | ((with_reducible refine gate_dst (N := 6) rfl ?_); refine box_event ?hg (N := 6) ?hd (cs := #[.int .i64 0, .int .i64 0, .int .i64 0, .int .i64 0, .int .i64 0, .bool false, .int .i64 0, .slice none 0 0]) (t := 82) ?hr ?_; (case hd => rfl); (case hg => rfl); (case hr => first | (go_simp; done) | (go_simp; rfl)); intro gr hg w3 hbox hb; have GE_gr : Aside0 (w.heap.size ≤ gr) := ⟨by rw [hg]; exact below_size HB2.out⟩; have NE_gp_gr : Aside0 (gp ≠ gr) := ⟨by have h_ := blk_lt BK2_gp.out; omega⟩; have NE_gr_gp : Aside0 (gr ≠ gp) := ⟨fun h_ => NE_gp_gr.out h_.symm⟩; have NE_gx_gr : Aside0 (gx ≠ gr) := ⟨by have h_ := blk_lt BK2_gx.out; omega⟩; have NE_gr_gx : Aside0 (gr ≠ gx) := ⟨fun h_ => NE_gx_gr.out h_.symm⟩; have HB3 := Aside0.mk (below_step HB2.out hb); have BK3_gp := Aside0.mk (blk_below BK2_gp.out hb); have BK3_gx := Aside0.mk (blk_below BK2_gx.out hb); have BK3_gr := Aside0.mk hbox; clear hbox hb hg; clear hc2_gx_0 hc2_gx_7; have hc3_gx_0 : w3.cell? ⟨gx, 0, none⟩ = some (.int .i64 a1_0) := (blk_cell BK3_gx.out 0).trans rfl; have hc3_gx_7 : w3.cell? ⟨gx, 7, none⟩ = some (.slice A1_7 l1_7.length c1_7) := (blk_cell BK3_gx.out 7).trans rfl) | ((with_reducible refine gate_dst (N := 21) rfl ?_); refine load_event ?hg (t := 80) (x := ?xl31) ?ho (off := 0) [.slice A0_0 l0_0.length c0_0, .slice A0_1 l0_1.length c0_1, .slice A0_2 l0_2.length c0_2, .slice A0_3 l0_3.length c0_3, .slice A0_4 l0_4.length c0_4] BK3_gp.out ?hx ?hs Tryd.underlying80 rfl ?ht ?_; (case ho => rfl); (case hg => rfl); (case hx => rfl); (case hs => rfl); (case ht => kernel_rfl)) | ((with_reducible refine gate_dst (N := 22) rfl ?_); refine load_event ?hg (t := 82) (x := ?xl32) ?ho (off := 0) [.int .i64 a1_0, .int .i64 a1_1, .int .i64 a1_2, .int .i64 a1_3, .int .i64 a1_4, .bool a1_5, .int .i64 a1_6, .slice A1_7 l1_7.length c1_7] BK3_gx.out ?hx ?hs Tryd.underlying82 rfl ?ht ?_; (case ho => rfl); (case hg => rfl); (case hx => rfl); (case hs => rfl); (case ht => kernel_rfl)) | (go_at_call 51; refine (phase_Right.calls k A0_0 c0_0 l0_0 A0_1 c0_1 l0_1 A0_2 c0_2 l0_2 A0_3 c0_3 l0_3 A0_4 c0_4 l0_4 a1_0 a1_1 a1_2 a1_3 a1_4 a1_5 a1_6 A1_7 c1_7 l1_7 false _ (Kd.C_below HR0_0.out HB3.out) HC0_0.out (Kd.C_below HR0_1.out HB3.out) HC0_1.out (Kd.C_below HR0_2.out HB3.out) HC0_2.out (Kd.C_below HR0_3.out HB3.out) HC0_3.out (Kd.C_below HR0_4.out HB3.out) HC0_4.out (Kd.C_below HR1_7.out HB3.out) HC1_7.out HRT.out (UT.below HT0.out HB3.out)).mono ?_; rintro e_ w4 ⟨rfl, hb⟩; have HB4 := Aside0.mk (below_step HB3.out hb); have BK4_gp := Aside0.mk (blk_below BK3_gp.out hb); have BK4_gx := Aside0.mk (blk_below BK3_gx.out hb); have BK4_gr := Aside0.mk (blk_below BK3_gr.out hb); clear hb; clear hc3_gx_0 hc3_gx_7; have hc4_gx_0 : w4.cell? ⟨gx, 0, none⟩ = some (.int .i64 a1_0) := (blk_cell BK4_gx.out 0).trans rfl; have hc4_gx_7 : w4.cell? ⟨gx, 7, none⟩ = some (.slice A1_7 l1_7.length c1_7) := (blk_cell BK4_gx.out 7).trans rfl) | ((with_reducible refine gate_store (t := 82) (p := 6) rfl ?_); refine put_event (t := 82) (x := ?xo33) (y := ?yo34) (off := 0) ?hg ?hn ?ho [.int .i64 0, .int .i64 0, .int .i64 0, .int .i64 0, .int .i64 0, .bool false, .int .i64 0, .slice none 0 0] BK4_gr.out ?hx ?hy ?ht ?hf rfl #[.int .i64 0, .int .i64 0, .int .i64 0, .int .i64 0, .int .i64 0, .bool false, .int .i64 0, .slice none 0 0] ?hcs ?_; (case ho => rfl); (case hg => rfl); (case hn => rfl); (case hx => rfl); (case hy => rfl); (case ht => kernel_rfl); (case hf => exact Nat.le_of_ble_eq_true rfl); (case hcs => rfl); intro w5 hbox hp; have HB5 := Aside0.mk (HB4.out.trans (hp.below.mono GE_gr.out)); have BK5_gp := Aside0.mk (hp.blk BK4_gp.out NE_gp_gr.out); have BK5_gx := Aside0.mk (hp.blk BK4_gx.out NE_gx_gr.out); have BK5_gr := Aside0.mk hbox; clear hbox hp; clear hc4_gx_0 hc4_gx_7; have hc5_gx_0 : w5.cell? ⟨gx, 0, none⟩ = some (.int .i64 a1_0) := (blk_cell BK5_gx.out 0).trans rfl; have hc5_gx_7 : w5.cell? ⟨gx, 7, none⟩ = some (.slice A1_7 l1_7.length c1_7) := (blk_cell BK5_gx.out 7).trans rfl))
  refine bodyPost_ret (results_ctt rfl _ _ gr 82 #[.int .i64 0, .int .i64 0, .int .i64 0, .int .i64 0, .int .i64 0, .bool false, .int .i64 0, .slice none 0 0] (0, 0) _ rfl BK5_gr.out Tryd.underlying82 rfl (by kernel_rfl)) rfl ?_
  exact ⟨_, _, rfl, Kd.R_nil _ _ _ _ _, Kd.R_nil _ _ _ _ _, HB5.out⟩
set_option maxHeartbeats 8000000 in
set_option maxRecDepth 100000 in
theorem Scan_two (k : Nat) (A0_0 : Option Addr) (c0_0 : Nat) (l0_0 : List (S67)) (A0_1 : Option Addr) (c0_1 : Nat) (l0_1 : List (S67)) (A0_2 : Option Addr) (c0_2 : Nat) (l0_2 : List (S67)) (A0_3 : Option Addr) (c0_3 : Nat) (l0_3 : List (S67)) (A0_4 : Option Addr) (c0_4 : Nat) (l0_4 : List (S67)) (a1_0 : Int) (a1_1 : Int) (a1_2 : Int) (a1_3 : Int) (a1_4 : Int) (a1_5 : Bool) (a1_6 : Int) (A1_7 : Option Addr) (c1_7 : Nat) (l1_7 : List (S69)) (A2 : Option Addr) (c2 : Nat) (l2 : List (S69)) (t1 t2 t3 t4 t5 : Int) (t6 : Bool) (t7 : Int) (t8 : List (S69)) (w : World) (hr0_0 : Kd.C k67 w A0_0 l0_0.length l0_0) (hc0_0 : l0_0.length ≤ c0_0) (hr0_1 : Kd.C k67 w A0_1 l0_1.length l0_1) (hc0_1 : l0_1.length ≤ c0_1) (hr0_2 : Kd.C k67 w A0_2 l0_2.length l0_2) (hc0_2 : l0_2.length ≤ c0_2) (hr0_3 : Kd.C k67 w A0_3 l0_3.length l0_3) (hc0_3 : l0_3.length ≤ c0_3) (hr0_4 : Kd.C k67 w A0_4 l0_4.length l0_4) (hc0_4 : l0_4.length ≤ c0_4) (hr1_7 : Kd.C k69 w A1_7 l1_7.length l1_7) (hc1_7 : l1_7.length ≤ c1_7) (hr2 : Kd.C k69 w A2 l2.length l2) (hc2 : l2.length ≤ c2) (hR : phase_Right.f k l0_0 l0_1 l0_2 l0_3 l0_4 a1_0 a1_1 a1_2 a1_3 a1_4 a1_5 a1_6 l1_7 = some true) (c1 : a1_0 = 2) (hI : phase_in.f a1_0 a1_1 a1_2 a1_3 a1_4 a1_5 a1_6 l1_7 3 = some (t1, t2, t3, t4, t5, t6, t7, t8)) (hT : UT w) :
    Calls Tryd.prog 56 #[.agg #[.slice A0_0 l0_0.length c0_0, .slice A0_1 l0_1.length c0_1, .slice A0_2 l0_2.length c0_2, .slice A0_3 l0_3.length c0_3, .slice A0_4 l0_4.length c0_4], .agg #[.int .i64 a1_0, .int .i64 a1_1, .int .i64 a1_2, .int .i64 a1_3, .int .i64 a1_4, .bool a1_5, .int .i64 a1_6, .slice A1_7 l1_7.length c1_7], .slice A2 l2.length c2] w fun e w' => ∃ v7_ v8_ : Value, e = .returned (.tuple #[.agg #[.int .i64 t1, .int .i64 t2, .int .i64 t3, .int .i64 t4, .int .i64 t5, .bool t6, .int .i64 t7, v7_], v8_, .int .i64 0]) ∧ Kd.R k69 69 w' w.heap.size (fun _ => True) v7_ t8 ∧ Kd.R k72 72 w' w.heap.size (fun _ => True) v8_ ([] : List (S72)) ∧ Below w.heap.size w w' := by
  have hu82 := Tryd.underlying82
  have hu57 := Tryd.underlying57
  have hu80 := Tryd.underlying80
  have HB0 := Aside0.mk (Below.refl w.heap.size w)
  have HT0 := Aside0.mk hT
  have HR0_0 := Aside0.mk hr0_0
  have HR0_1 := Aside0.mk hr0_1
  have HR0_2 := Aside0.mk hr0_2
  have HR0_3 := Aside0.mk hr0_3
  have HR0_4 := Aside0.mk hr0_4
  have HC0_0 := Aside0.mk hc0_0
  have HC0_1 := Aside0.mk hc0_1
  have HC0_2 := Aside0.mk hc0_2
  have HC0_3 := Aside0.mk hc0_3
  have HC0_4 := Aside0.mk hc0_4
  have HR1_7 := Aside0.mk hr1_7
  have HC1_7 := Aside0.mk hc1_7
  have HR2 := Aside0.mk hr2
  have HC2 := Aside0.mk hc2
  clear hT hr0_0 hc0_0 hr0_1 hc0_1 hr0_2 hc0_2 hr0_3 hc0_3 hr0_4 hc0_4 hr1_7 hc1_7 hr2 hc2
  have HRT := Aside0.mk hR
  have HI := Aside0.mk hI
  clear hR hI
  have c1a : (a1_0 == 2) = true := beq_iff_eq.mpr c1
  have c1b : (a1_0 != 2) = false := bne_eq_false_iff_eq.mpr c1
  clear c1
  go_enter Tryd.func56, Tryd.ntmps56
  go_wp2_with (first | ((with_reducible refine gate_dst (N := 3) rfl ?_); refine box_event ?hg (N := 3) ?hd (cs := #[.slice A0_0 l0_0.length c0_0, .slice A0_1 l0_1.length c0_1, .slice A0_2 l0_2.length c0_2, .slice A0_3 l0_3.length c0_3, .slice A0_4 l0_4.length c0_4]) (t := 80) ?hr ?_; (case hd => rfl); (case hg => rfl); (case hr => first | (go_simp; done) | (go_simp; rfl)); intro gp hg w1 hbox hb; have GE_gp : Aside0 (w.heap.size ≤ gp) := ⟨by rw [hg]; exact below_size HB0.out⟩; have HB1 := Aside0.mk (below_step HB0.out hb); have BK1_gp := Aside0.mk hbox; clear hbox hb hg) | ((with_reducible refine gate_dst (N := 4) rfl ?_); refine box_event ?hg (N := 4) ?hd (cs := #[.int .i64 a1_0, .int .i64 a1_1, .int .i64 a1_2, .int .i64 a1_3, .int .i64 a1_4, .bool a1_5, .int .i64 a1_6, .slice A1_7 l1_7.length c1_7]) (t := 82) ?hr ?_; (case hd => rfl); (case hg => rfl); (case hr => first | (go_simp; done) | (go_simp; rfl)); intro gx hg w2 hbox hb; have GE_gx : Aside0 (w.heap.size ≤ gx) := ⟨by rw [hg]; exact below_size HB1.out⟩; have NE_gp_gx : Aside0 (gp ≠ gx) := ⟨by have h_ := blk_lt BK1_gp.out; omega⟩; have NE_gx_gp : Aside0 (gx ≠ gp) := ⟨fun h_ => NE_gp_gx.out h_.symm⟩; have HB2 := Aside0.mk (below_step HB1.out hb); have BK2_gp := Aside0.mk (blk_below BK1_gp.out hb); have BK2_gx := Aside0.mk hbox; clear hbox hb hg; have hc2_gx_0 : w2.cell? ⟨gx, 0, none⟩ = some (.int .i64 a1_0) := (blk_cell BK2_gx.out 0).trans rfl; have hc2_gx_7 : w2.cell? ⟨gx, 7, none⟩ = some (.slice A1_7 l1_7.length c1_7) := (blk_cell BK2_gx.out 7).trans rfl) | ((with_reducible refine gate_dst (N := 6) rfl ?_); refine box_event ?hg (N := 6) ?hd (cs := #[.int .i64 0, .int .i64 0, .int .i64 0, .int .i64 0, .int .i64 0, .bool false, .int .i64 0, .slice none 0 0]) (t := 82) ?hr ?_; (case hd => rfl); (case hg => rfl); (case hr => first | (go_simp; done) | (go_simp; rfl)); intro gr hg w3 hbox hb; have GE_gr : Aside0 (w.heap.size ≤ gr) := ⟨by rw [hg]; exact below_size HB2.out⟩; have NE_gp_gr : Aside0 (gp ≠ gr) := ⟨by have h_ := blk_lt BK2_gp.out; omega⟩; have NE_gr_gp : Aside0 (gr ≠ gp) := ⟨fun h_ => NE_gp_gr.out h_.symm⟩; have NE_gx_gr : Aside0 (gx ≠ gr) := ⟨by have h_ := blk_lt BK2_gx.out; omega⟩; have NE_gr_gx : Aside0 (gr ≠ gx) := ⟨fun h_ => NE_gx_gr.out h_.symm⟩; have HB3 := Aside0.mk (below_step HB2.out hb); have BK3_gp := Aside0.mk (blk_below BK2_gp.out hb); have BK3_gx := Aside0.mk (blk_below BK2_gx.out hb); have BK3_gr := Aside0.mk hbox; clear hbox hb hg; clear hc2_gx_0 hc2_gx_7; have hc3_gx_0 : w3.cell? ⟨gx, 0, none⟩ = some (.int .i64 a1_0) := (blk_cell BK3_gx.out 0).trans rfl; have hc3_gx_7 : w3.cell? ⟨gx, 7, none⟩ = some (.slice A1_7 l1_7.length c1_7) := (blk_cell BK3_gx.out 7).trans rfl) | ((with_reducible refine gate_dst (N := 21) rfl ?_); refine load_event ?hg (t := 80) (x := ?xl35) ?ho (off := 0) [.slice A0_0 l0_0.length c0_0, .slice A0_1 l0_1.length c0_1, .slice A0_2 l0_2.length c0_2, .slice A0_3 l0_3.length c0_3, .slice A0_4 l0_4.length c0_4] BK3_gp.out ?hx ?hs Tryd.underlying80 rfl ?ht ?_; (case ho => rfl); (case hg => rfl); (case hx => rfl); (case hs => rfl); (case ht => kernel_rfl)) | ((with_reducible refine gate_dst (N := 22) rfl ?_); refine load_event ?hg (t := 82) (x := ?xl36) ?ho (off := 0) [.int .i64 a1_0, .int .i64 a1_1, .int .i64 a1_2, .int .i64 a1_3, .int .i64 a1_4, .bool a1_5, .int .i64 a1_6, .slice A1_7 l1_7.length c1_7] BK3_gx.out ?hx ?hs Tryd.underlying82 rfl ?ht ?_; (case ho => rfl); (case hg => rfl); (case hx => rfl); (case hs => rfl); (case ht => kernel_rfl)) | (go_at_call 51; refine (phase_Right.calls k A0_0 c0_0 l0_0 A0_1 c0_1 l0_1 A0_2 c0_2 l0_2 A0_3 c0_3 l0_3 A0_4 c0_4 l0_4 a1_0 a1_1 a1_2 a1_3 a1_4 a1_5 a1_6 A1_7 c1_7 l1_7 true _ (Kd.C_below HR0_0.out HB3.out) HC0_0.out (Kd.C_below HR0_1.out HB3.out) HC0_1.out (Kd.C_below HR0_2.out HB3.out) HC0_2.out (Kd.C_below HR0_3.out HB3.out) HC0_3.out (Kd.C_below HR0_4.out HB3.out) HC0_4.out (Kd.C_below HR1_7.out HB3.out) HC1_7.out HRT.out (UT.below HT0.out HB3.out)).mono ?_; rintro e_ w4 ⟨rfl, hb⟩; have HB4 := Aside0.mk (below_step HB3.out hb); have BK4_gp := Aside0.mk (blk_below BK3_gp.out hb); have BK4_gx := Aside0.mk (blk_below BK3_gx.out hb); have BK4_gr := Aside0.mk (blk_below BK3_gr.out hb); clear hb; clear hc3_gx_0 hc3_gx_7; have hc4_gx_0 : w4.cell? ⟨gx, 0, none⟩ = some (.int .i64 a1_0) := (blk_cell BK4_gx.out 0).trans rfl; have hc4_gx_7 : w4.cell? ⟨gx, 7, none⟩ = some (.slice A1_7 l1_7.length c1_7) := (blk_cell BK4_gx.out 7).trans rfl) | ((with_reducible refine gate_dst (N := 30) rfl ?_); refine load_event ?hg (t := 82) (x := ?xl37) ?ho (off := 0) [.int .i64 a1_0, .int .i64 a1_1, .int .i64 a1_2, .int .i64 a1_3, .int .i64 a1_4, .bool a1_5, .int .i64 a1_6, .slice A1_7 l1_7.length c1_7] BK4_gx.out ?hx ?hs Tryd.underlying82 rfl ?ht ?_; (case ho => rfl); (case hg => rfl); (case hx => rfl); (case hs => rfl); (case ht => kernel_rfl)) | (go_at_call 85; refine (phase_in.calls a1_0 a1_1 a1_2 a1_3 a1_4 a1_5 a1_6 A1_7 c1_7 l1_7 3 t1 t2 t3 t4 t5 t6 t7 t8 _ (Kd.C_below HR1_7.out HB4.out) HC1_7.out HI.out).mono ?_; rintro e_ w5 ⟨v7_, rfl, hr, hb⟩; obtain ⟨Aq, cq, rfl, hcq, hCq⟩ := Kd.R_reads hr; have HL5_q := Aside0.mk (Kd.R_lower hr (below_size HB4.out)); have HC_q := Aside0.mk hcq; have HV5_q := Aside0.mk hCq; clear hCq hr hcq; have HB5 := Aside0.mk (below_step HB4.out hb); have BK5_gp := Aside0.mk (blk_below BK4_gp.out hb); have BK5_gx := Aside0.mk (blk_below BK4_gx.out hb); have BK5_gr := Aside0.mk (blk_below BK4_gr.out hb); clear hb; clear hc4_gx_0 hc4_gx_7; have hc5_gx_0 : w5.cell? ⟨gx, 0, none⟩ = some (.int .i64 a1_0) := (blk_cell BK5_gx.out 0).trans rfl; have hc5_gx_7 : w5.cell? ⟨gx, 7, none⟩ = some (.slice A1_7 l1_7.length c1_7) := (blk_cell BK5_gx.out 7).trans rfl) | ((with_reducible refine gate_store (t := 82) (p := 6) rfl ?_); refine put_event (t := 82) (x := ?xo38) (y := ?yo39) (off := 0) ?hg ?hn ?ho [.int .i64 t1, .int .i64 t2, .int .i64 t3, .int .i64 t4, .int .i64 t5, .bool t6, .int .i64 t7, .slice Aq t8.length cq] BK5_gr.out ?hx ?hy ?ht ?hf rfl #[.int .i64 t1, .int .i64 t2, .int .i64 t3, .int .i64 t4, .int .i64 t5, .bool t6, .int .i64 t7, .slice Aq t8.length cq] ?hcs ?_; (case ho => rfl); (case hg => rfl); (case hn => rfl); (case hx => rfl); (case hy => rfl); (case ht => kernel_rfl); (case hf => exact Nat.le_of_ble_eq_true rfl); (case hcs => rfl); intro w6 hbox hp; have HB6 := Aside0.mk (HB5.out.trans (hp.below.mono GE_gr.out)); have BK6_gp := Aside0.mk (hp.blk BK5_gp.out NE_gp_gr.out); have BK6_gx := Aside0.mk (hp.blk BK5_gx.out NE_gx_gr.out); have BK6_gr := Aside0.mk hbox; have HR6_q := Aside0.mk (R_put HL5_q.out BK5_gr.out (by decide) hp); clear hbox hp; clear hc5_gx_0 hc5_gx_7; have hc6_gx_0 : w6.cell? ⟨gx, 0, none⟩ = some (.int .i64 a1_0) := (blk_cell BK6_gx.out 0).trans rfl; have hc6_gx_7 : w6.cell? ⟨gx, 7, none⟩ = some (.slice A1_7 l1_7.length c1_7) := (blk_cell BK6_gx.out 7).trans rfl))
  refine bodyPost_ret (results_ctt rfl _ _ gr 82 #[.int .i64 t1, .int .i64 t2, .int .i64 t3, .int .i64 t4, .int .i64 t5, .bool t6, .int .i64 t7, .slice Aq t8.length cq] (0, 0) _ rfl BK6_gr.out Tryd.underlying82 rfl (by kernel_rfl)) rfl ?_
  exact ⟨_, _, rfl, HR6_q.out, Kd.R_nil _ _ _ _ _, HB6.out⟩
set_option maxHeartbeats 8000000 in
set_option maxRecDepth 100000 in
theorem Scan_rest (k : Nat) (A0_0 : Option Addr) (c0_0 : Nat) (l0_0 : List (S67)) (A0_1 : Option Addr) (c0_1 : Nat) (l0_1 : List (S67)) (A0_2 : Option Addr) (c0_2 : Nat) (l0_2 : List (S67)) (A0_3 : Option Addr) (c0_3 : Nat) (l0_3 : List (S67)) (A0_4 : Option Addr) (c0_4 : Nat) (l0_4 : List (S67)) (a1_0 : Int) (a1_1 : Int) (a1_2 : Int) (a1_3 : Int) (a1_4 : Int) (a1_5 : Bool) (a1_6 : Int) (A1_7 : Option Addr) (c1_7 : Nat) (l1_7 : List (S69)) (A2 : Option Addr) (c2 : Nat) (l2 : List (S69)) (t8 : List (S69)) (w : World) (hr0_0 : Kd.C k67 w A0_0 l0_0.length l0_0) (hc0_0 : l0_0.length ≤ c0_0) (hr0_1 : Kd.C k67 w A0_1 l0_1.length l0_1) (hc0_1 : l0_1.length ≤ c0_1) (hr0_2 : Kd.C k67 w A0_2 l0_2.length l0_2) (hc0_2 : l0_2.length ≤ c0_2) (hr0_3 : Kd.C k67 w A0_3 l0_3.length l0_3) (hc0_3 : l0_3.length ≤ c0_3) (hr0_4 : Kd.C k67 w A0_4 l0_4.length l0_4) (hc0_4 : l0_4.length ≤ c0_4) (hr1_7 : Kd.C k69 w A1_7 l1_7.length l1_7) (hc1_7 : l1_7.length ≤ c1_7) (hr2 : Kd.C k69 w A2 l2.length l2) (hc2 : l2.length ≤ c2) (hR : phase_Right.f k l0_0 l0_1 l0_2 l0_3 l0_4 a1_0 a1_1 a1_2 a1_3 a1_4 a1_5 a1_6 l1_7 = some true) (c1 : a1_0 ≠ 2) (hA : chart_Acting.f a1_0 = some false) (hK : api_Cell_86.f l1_7 = some t8) (hT : UT w) :
    Calls Tryd.prog 56 #[.agg #[.slice A0_0 l0_0.length c0_0, .slice A0_1 l0_1.length c0_1, .slice A0_2 l0_2.length c0_2, .slice A0_3 l0_3.length c0_3, .slice A0_4 l0_4.length c0_4], .agg #[.int .i64 a1_0, .int .i64 a1_1, .int .i64 a1_2, .int .i64 a1_3, .int .i64 a1_4, .bool a1_5, .int .i64 a1_6, .slice A1_7 l1_7.length c1_7], .slice A2 l2.length c2] w fun e w' => ∃ v7_ v8_ : Value, e = .returned (.tuple #[.agg #[.int .i64 a1_0, .int .i64 a1_1, .int .i64 a1_2, .int .i64 a1_3, .int .i64 a1_4, .bool a1_5, .int .i64 a1_6, v7_], v8_, .int .i64 0]) ∧ Kd.R k69 69 w' w.heap.size (fun _ => True) v7_ t8 ∧ Kd.R k72 72 w' w.heap.size (fun _ => True) v8_ ([] : List (S72)) ∧ Below w.heap.size w w' := by
  have hu82 := Tryd.underlying82
  have hu57 := Tryd.underlying57
  have hu80 := Tryd.underlying80
  have HB0 := Aside0.mk (Below.refl w.heap.size w)
  have HT0 := Aside0.mk hT
  have HR0_0 := Aside0.mk hr0_0
  have HR0_1 := Aside0.mk hr0_1
  have HR0_2 := Aside0.mk hr0_2
  have HR0_3 := Aside0.mk hr0_3
  have HR0_4 := Aside0.mk hr0_4
  have HC0_0 := Aside0.mk hc0_0
  have HC0_1 := Aside0.mk hc0_1
  have HC0_2 := Aside0.mk hc0_2
  have HC0_3 := Aside0.mk hc0_3
  have HC0_4 := Aside0.mk hc0_4
  have HR1_7 := Aside0.mk hr1_7
  have HC1_7 := Aside0.mk hc1_7
  have HR2 := Aside0.mk hr2
  have HC2 := Aside0.mk hc2
  clear hT hr0_0 hc0_0 hr0_1 hc0_1 hr0_2 hc0_2 hr0_3 hc0_3 hr0_4 hc0_4 hr1_7 hc1_7 hr2 hc2
  have HRT := Aside0.mk hR
  have HA := Aside0.mk hA
  have HK := Aside0.mk hK
  clear hR hA hK
  have c1a : (a1_0 == 2) = false := beq_eq_false_iff_ne.mpr c1
  have c1b : (a1_0 != 2) = true := bne_iff_ne.mpr c1
  clear c1
  go_enter Tryd.func56, Tryd.ntmps56
  go_wp2_with (first | ((with_reducible refine gate_dst (N := 3) rfl ?_); refine box_event ?hg (N := 3) ?hd (cs := #[.slice A0_0 l0_0.length c0_0, .slice A0_1 l0_1.length c0_1, .slice A0_2 l0_2.length c0_2, .slice A0_3 l0_3.length c0_3, .slice A0_4 l0_4.length c0_4]) (t := 80) ?hr ?_; (case hd => rfl); (case hg => rfl); (case hr => first | (go_simp; done) | (go_simp; rfl)); intro gp hg w1 hbox hb; have GE_gp : Aside0 (w.heap.size ≤ gp) := ⟨by rw [hg]; exact below_size HB0.out⟩; have HB1 := Aside0.mk (below_step HB0.out hb); have BK1_gp := Aside0.mk hbox; clear hbox hb hg) | ((with_reducible refine gate_dst (N := 4) rfl ?_); refine box_event ?hg (N := 4) ?hd (cs := #[.int .i64 a1_0, .int .i64 a1_1, .int .i64 a1_2, .int .i64 a1_3, .int .i64 a1_4, .bool a1_5, .int .i64 a1_6, .slice A1_7 l1_7.length c1_7]) (t := 82) ?hr ?_; (case hd => rfl); (case hg => rfl); (case hr => first | (go_simp; done) | (go_simp; rfl)); intro gx hg w2 hbox hb; have GE_gx : Aside0 (w.heap.size ≤ gx) := ⟨by rw [hg]; exact below_size HB1.out⟩; have NE_gp_gx : Aside0 (gp ≠ gx) := ⟨by have h_ := blk_lt BK1_gp.out; omega⟩; have NE_gx_gp : Aside0 (gx ≠ gp) := ⟨fun h_ => NE_gp_gx.out h_.symm⟩; have HB2 := Aside0.mk (below_step HB1.out hb); have BK2_gp := Aside0.mk (blk_below BK1_gp.out hb); have BK2_gx := Aside0.mk hbox; clear hbox hb hg; have hc2_gx_0 : w2.cell? ⟨gx, 0, none⟩ = some (.int .i64 a1_0) := (blk_cell BK2_gx.out 0).trans rfl; have hc2_gx_7 : w2.cell? ⟨gx, 7, none⟩ = some (.slice A1_7 l1_7.length c1_7) := (blk_cell BK2_gx.out 7).trans rfl) | ((with_reducible refine gate_dst (N := 6) rfl ?_); refine box_event ?hg (N := 6) ?hd (cs := #[.int .i64 0, .int .i64 0, .int .i64 0, .int .i64 0, .int .i64 0, .bool false, .int .i64 0, .slice none 0 0]) (t := 82) ?hr ?_; (case hd => rfl); (case hg => rfl); (case hr => first | (go_simp; done) | (go_simp; rfl)); intro gr hg w3 hbox hb; have GE_gr : Aside0 (w.heap.size ≤ gr) := ⟨by rw [hg]; exact below_size HB2.out⟩; have NE_gp_gr : Aside0 (gp ≠ gr) := ⟨by have h_ := blk_lt BK2_gp.out; omega⟩; have NE_gr_gp : Aside0 (gr ≠ gp) := ⟨fun h_ => NE_gp_gr.out h_.symm⟩; have NE_gx_gr : Aside0 (gx ≠ gr) := ⟨by have h_ := blk_lt BK2_gx.out; omega⟩; have NE_gr_gx : Aside0 (gr ≠ gx) := ⟨fun h_ => NE_gx_gr.out h_.symm⟩; have HB3 := Aside0.mk (below_step HB2.out hb); have BK3_gp := Aside0.mk (blk_below BK2_gp.out hb); have BK3_gx := Aside0.mk (blk_below BK2_gx.out hb); have BK3_gr := Aside0.mk hbox; clear hbox hb hg; clear hc2_gx_0 hc2_gx_7; have hc3_gx_0 : w3.cell? ⟨gx, 0, none⟩ = some (.int .i64 a1_0) := (blk_cell BK3_gx.out 0).trans rfl; have hc3_gx_7 : w3.cell? ⟨gx, 7, none⟩ = some (.slice A1_7 l1_7.length c1_7) := (blk_cell BK3_gx.out 7).trans rfl) | ((with_reducible refine gate_dst (N := 21) rfl ?_); refine load_event ?hg (t := 80) (x := ?xl40) ?ho (off := 0) [.slice A0_0 l0_0.length c0_0, .slice A0_1 l0_1.length c0_1, .slice A0_2 l0_2.length c0_2, .slice A0_3 l0_3.length c0_3, .slice A0_4 l0_4.length c0_4] BK3_gp.out ?hx ?hs Tryd.underlying80 rfl ?ht ?_; (case ho => rfl); (case hg => rfl); (case hx => rfl); (case hs => rfl); (case ht => kernel_rfl)) | ((with_reducible refine gate_dst (N := 22) rfl ?_); refine load_event ?hg (t := 82) (x := ?xl41) ?ho (off := 0) [.int .i64 a1_0, .int .i64 a1_1, .int .i64 a1_2, .int .i64 a1_3, .int .i64 a1_4, .bool a1_5, .int .i64 a1_6, .slice A1_7 l1_7.length c1_7] BK3_gx.out ?hx ?hs Tryd.underlying82 rfl ?ht ?_; (case ho => rfl); (case hg => rfl); (case hx => rfl); (case hs => rfl); (case ht => kernel_rfl)) | (go_at_call 51; refine (phase_Right.calls k A0_0 c0_0 l0_0 A0_1 c0_1 l0_1 A0_2 c0_2 l0_2 A0_3 c0_3 l0_3 A0_4 c0_4 l0_4 a1_0 a1_1 a1_2 a1_3 a1_4 a1_5 a1_6 A1_7 c1_7 l1_7 true _ (Kd.C_below HR0_0.out HB3.out) HC0_0.out (Kd.C_below HR0_1.out HB3.out) HC0_1.out (Kd.C_below HR0_2.out HB3.out) HC0_2.out (Kd.C_below HR0_3.out HB3.out) HC0_3.out (Kd.C_below HR0_4.out HB3.out) HC0_4.out (Kd.C_below HR1_7.out HB3.out) HC1_7.out HRT.out (UT.below HT0.out HB3.out)).mono ?_; rintro e_ w4 ⟨rfl, hb⟩; have HB4 := Aside0.mk (below_step HB3.out hb); have BK4_gp := Aside0.mk (blk_below BK3_gp.out hb); have BK4_gx := Aside0.mk (blk_below BK3_gx.out hb); have BK4_gr := Aside0.mk (blk_below BK3_gr.out hb); clear hb; clear hc3_gx_0 hc3_gx_7; have hc4_gx_0 : w4.cell? ⟨gx, 0, none⟩ = some (.int .i64 a1_0) := (blk_cell BK4_gx.out 0).trans rfl; have hc4_gx_7 : w4.cell? ⟨gx, 7, none⟩ = some (.slice A1_7 l1_7.length c1_7) := (blk_cell BK4_gx.out 7).trans rfl) | (go_at_call 87; refine (chart_Acting.calls a1_0 false _ HA.out).mono ?_; rintro e_ w5 ⟨rfl, hdr⟩; have hb := hdr.below; clear hdr; have HB5 := Aside0.mk (below_step HB4.out hb); have BK5_gp := Aside0.mk (blk_below BK4_gp.out hb); have BK5_gx := Aside0.mk (blk_below BK4_gx.out hb); have BK5_gr := Aside0.mk (blk_below BK4_gr.out hb); clear hb; clear hc4_gx_0 hc4_gx_7; have hc5_gx_0 : w5.cell? ⟨gx, 0, none⟩ = some (.int .i64 a1_0) := (blk_cell BK5_gx.out 0).trans rfl; have hc5_gx_7 : w5.cell? ⟨gx, 7, none⟩ = some (.slice A1_7 l1_7.length c1_7) := (blk_cell BK5_gx.out 7).trans rfl) | (go_at_call 86; refine (api_Cell_86.calls A1_7 c1_7 l1_7 t8 _ (Kd.C_below HR1_7.out HB5.out) HC1_7.out HK.out).mono ?_; rintro e_ w6 ⟨v0_, rfl, hr, hb⟩; obtain ⟨Aq, cq, rfl, hcq, hCq⟩ := Kd.R_reads hr; have HL6_q := Aside0.mk (Kd.R_lower hr (below_size HB5.out)); have HC_q := Aside0.mk hcq; have HV6_q := Aside0.mk hCq; clear hCq hr hcq; have HB6 := Aside0.mk (below_step HB5.out hb); have BK6_gp := Aside0.mk (blk_below BK5_gp.out hb); have BK6_gx := Aside0.mk (blk_below BK5_gx.out hb); have BK6_gr := Aside0.mk (blk_below BK5_gr.out hb); clear hb; clear hc5_gx_0 hc5_gx_7; have hc6_gx_0 : w6.cell? ⟨gx, 0, none⟩ = some (.int .i64 a1_0) := (blk_cell BK6_gx.out 0).trans rfl; have hc6_gx_7 : w6.cell? ⟨gx, 7, none⟩ = some (.slice A1_7 l1_7.length c1_7) := (blk_cell BK6_gx.out 7).trans rfl) | ((with_reducible refine gate_store (t := 35) (p := 40) rfl ?_); refine put_event (t := 35) (x := ?xo42) (y := ?yo43) (off := 7) ?hg ?hn ?ho [.slice Aq t8.length cq] BK6_gx.out ?hx ?hy ?ht ?hf rfl #[.int .i64 a1_0, .int .i64 a1_1, .int .i64 a1_2, .int .i64 a1_3, .int .i64 a1_4, .bool a1_5, .int .i64 a1_6, .slice Aq t8.length cq] ?hcs ?_; (case ho => rfl); (case hg => rfl); (case hn => rfl); (case hx => rfl); (case hy => rfl); (case ht => kernel_rfl); (case hf => exact Nat.le_of_ble_eq_true rfl); (case hcs => rfl); intro w7 hbox hp; have HB7 := Aside0.mk (HB6.out.trans (hp.below.mono GE_gx.out)); have BK7_gp := Aside0.mk (hp.blk BK6_gp.out NE_gp_gx.out); have BK7_gx := Aside0.mk hbox; have BK7_gr := Aside0.mk (hp.blk BK6_gr.out NE_gr_gx.out); have HR7_q := Aside0.mk (R_put HL6_q.out BK6_gx.out (by decide) hp); clear hbox hp; clear hc6_gx_0 hc6_gx_7; have hc7_gx_0 : w7.cell? ⟨gx, 0, none⟩ = some (.int .i64 a1_0) := (blk_cell BK7_gx.out 0).trans rfl; have hc7_gx_7 : w7.cell? ⟨gx, 7, none⟩ = some (.slice Aq t8.length cq) := (blk_cell BK7_gx.out 7).trans rfl) | ((with_reducible refine gate_dst (N := 41) rfl ?_); refine load_event ?hg (t := 82) (x := ?xl44) ?ho (off := 0) [.int .i64 a1_0, .int .i64 a1_1, .int .i64 a1_2, .int .i64 a1_3, .int .i64 a1_4, .bool a1_5, .int .i64 a1_6, .slice Aq t8.length cq] BK7_gx.out ?hx ?hs Tryd.underlying82 rfl ?ht ?_; (case ho => rfl); (case hg => rfl); (case hx => rfl); (case hs => rfl); (case ht => kernel_rfl)) | ((with_reducible refine gate_store (t := 82) (p := 6) rfl ?_); refine put_event (t := 82) (x := ?xo45) (y := ?yo46) (off := 0) ?hg ?hn ?ho [.int .i64 a1_0, .int .i64 a1_1, .int .i64 a1_2, .int .i64 a1_3, .int .i64 a1_4, .bool a1_5, .int .i64 a1_6, .slice Aq t8.length cq] BK7_gr.out ?hx ?hy ?ht ?hf rfl #[.int .i64 a1_0, .int .i64 a1_1, .int .i64 a1_2, .int .i64 a1_3, .int .i64 a1_4, .bool a1_5, .int .i64 a1_6, .slice Aq t8.length cq] ?hcs ?_; (case ho => rfl); (case hg => rfl); (case hn => rfl); (case hx => rfl); (case hy => rfl); (case ht => kernel_rfl); (case hf => exact Nat.le_of_ble_eq_true rfl); (case hcs => rfl); intro w8 hbox hp; have HB8 := Aside0.mk (HB7.out.trans (hp.below.mono GE_gr.out)); have BK8_gp := Aside0.mk (hp.blk BK7_gp.out NE_gp_gr.out); have BK8_gx := Aside0.mk (hp.blk BK7_gx.out NE_gx_gr.out); have BK8_gr := Aside0.mk hbox; have HR8_q := Aside0.mk (R_put HR7_q.out BK7_gr.out (by decide) hp); clear hbox hp; clear hc7_gx_0 hc7_gx_7; have hc8_gx_0 : w8.cell? ⟨gx, 0, none⟩ = some (.int .i64 a1_0) := (blk_cell BK8_gx.out 0).trans rfl; have hc8_gx_7 : w8.cell? ⟨gx, 7, none⟩ = some (.slice Aq t8.length cq) := (blk_cell BK8_gx.out 7).trans rfl))
  refine bodyPost_ret (results_ctt rfl _ _ gr 82 #[.int .i64 a1_0, .int .i64 a1_1, .int .i64 a1_2, .int .i64 a1_3, .int .i64 a1_4, .bool a1_5, .int .i64 a1_6, .slice Aq t8.length cq] (0, 0) _ rfl BK8_gr.out Tryd.underlying82 rfl (by kernel_rfl)) rfl ?_
  exact ⟨_, _, rfl, HR8_q.out, Kd.R_nil _ _ _ _ _, HB8.out⟩
set_option maxHeartbeats 8000000 in
set_option maxRecDepth 100000 in
theorem Scan_run (k : Nat) (A0_0 : Option Addr) (c0_0 : Nat) (l0_0 : List (S67)) (A0_1 : Option Addr) (c0_1 : Nat) (l0_1 : List (S67)) (A0_2 : Option Addr) (c0_2 : Nat) (l0_2 : List (S67)) (A0_3 : Option Addr) (c0_3 : Nat) (l0_3 : List (S67)) (A0_4 : Option Addr) (c0_4 : Nat) (l0_4 : List (S67)) (a1_0 : Int) (a1_1 : Int) (a1_2 : Int) (a1_3 : Int) (a1_4 : Int) (a1_5 : Bool) (a1_6 : Int) (A1_7 : Option Addr) (c1_7 : Nat) (l1_7 : List (S69)) (A2 : Option Addr) (c2 : Nat) (l2 : List (S69)) (lv : List (S67)) (okv : Bool) (r1 : Int) (r2 : Int) (r3 : Int) (r4 : Int) (r5 : Int) (r6 : Bool) (r7 : Int) (r8 : List (S69)) (r9 : List (S72)) (r10 : Int) (w : World) (hr0_0 : Kd.C k67 w A0_0 l0_0.length l0_0) (hc0_0 : l0_0.length ≤ c0_0) (hr0_1 : Kd.C k67 w A0_1 l0_1.length l0_1) (hc0_1 : l0_1.length ≤ c0_1) (hr0_2 : Kd.C k67 w A0_2 l0_2.length l0_2) (hc0_2 : l0_2.length ≤ c0_2) (hr0_3 : Kd.C k67 w A0_3 l0_3.length l0_3) (hc0_3 : l0_3.length ≤ c0_3) (hr0_4 : Kd.C k67 w A0_4 l0_4.length l0_4) (hc0_4 : l0_4.length ≤ c0_4) (hr1_7 : Kd.C k69 w A1_7 l1_7.length l1_7) (hc1_7 : l1_7.length ≤ c1_7) (hr2 : Kd.C k69 w A2 l2.length l2) (hc2 : l2.length ≤ c2) (hR : phase_Right.f k l0_0 l0_1 l0_2 l0_3 l0_4 a1_0 a1_1 a1_2 a1_3 a1_4 a1_5 a1_6 l1_7 = some true) (q1 : a1_0 ≠ 2) (hA : chart_Acting.f a1_0 = some true) (hF : phase_find.f l0_0 l0_1 l0_2 l0_3 l0_4 a1_0 = some (lv, okv)) (h : phase_Scan.act k lv a1_0 a1_1 a1_2 a1_3 a1_4 a1_5 a1_6 l1_7 l2 a1_1 a1_2 = some (r1, r2, r3, r4, r5, r6, r7, r8, r9, r10)) (q2 : a1_0 = 1) (hT : UT w) :
  Calls Tryd.prog 56 #[.agg #[.slice A0_0 l0_0.length c0_0, .slice A0_1 l0_1.length c0_1, .slice A0_2 l0_2.length c0_2, .slice A0_3 l0_3.length c0_3, .slice A0_4 l0_4.length c0_4], .agg #[.int .i64 a1_0, .int .i64 a1_1, .int .i64 a1_2, .int .i64 a1_3, .int .i64 a1_4, .bool a1_5, .int .i64 a1_6, .slice A1_7 l1_7.length c1_7], .slice A2 l2.length c2] w fun e w' => ∃ v7_ v8_ : Value, e = .returned (.tuple #[.agg #[.int .i64 r1, .int .i64 r2, .int .i64 r3, .int .i64 r4, .int .i64 r5, .bool r6, .int .i64 r7, v7_], v8_, .int .i64 r10]) ∧ Kd.R k69 69 w' w.heap.size (fun _ => True) v7_ r8 ∧ Kd.R k72 72 w' w.heap.size (fun _ => True) v8_ r9 ∧ Below w.heap.size w w' := by
 have hu82 := Tryd.underlying82
 have hu57 := Tryd.underlying57
 have hu80 := Tryd.underlying80
 have HB0 := Aside0.mk (Below.refl w.heap.size w)
 have HT0 := Aside0.mk hT
 have HR0_0 := Aside0.mk hr0_0
 have HR0_1 := Aside0.mk hr0_1
 have HR0_2 := Aside0.mk hr0_2
 have HR0_3 := Aside0.mk hr0_3
 have HR0_4 := Aside0.mk hr0_4
 have HC0_0 := Aside0.mk hc0_0
 have HC0_1 := Aside0.mk hc0_1
 have HC0_2 := Aside0.mk hc0_2
 have HC0_3 := Aside0.mk hc0_3
 have HC0_4 := Aside0.mk hc0_4
 have HR1_7 := Aside0.mk hr1_7
 have HC1_7 := Aside0.mk hc1_7
 have HR2 := Aside0.mk hr2
 have HC2 := Aside0.mk hc2
 clear hT hr0_0 hc0_0 hr0_1 hc0_1 hr0_2 hc0_2 hr0_3 hc0_3 hr0_4 hc0_4 hr1_7 hc1_7 hr2 hc2
 have HRT := Aside0.mk hR
 have HA := Aside0.mk hA
 have HF := Aside0.mk hF
 have HQ2 := Aside0.mk q2
 unfold phase_Scan.act at h
 split at h
 case isFalse => cases h
 rename_i hl
 obtain ⟨⟨s1, s2, s3, s4, s5⟩, hS, h⟩ := Option.bind_eq_some_iff.mp h
 simp only [] at h
 have HL7 := Aside0.mk hl.1
 have HL2 := Aside0.mk hl.2
 have HPS := Aside0.mk hS
 have HH := Aside0.mk h
 clear hR hA hF hl hS h
 have q1a : (a1_0 == 2) = false := beq_eq_false_iff_ne.mpr q1
 have q1b : (a1_0 != 2) = true := bne_iff_ne.mpr q1
 clear q1
 have q2a : (a1_0 == 1) = true := beq_iff_eq.mpr q2
 have q2b : (a1_0 != 1) = false := bne_eq_false_iff_eq.mpr q2
 clear q2
 go_enter Tryd.func56, Tryd.ntmps56
 go_upto_region 12 with (first | ((with_reducible refine gate_dst (N := 3) rfl ?_); refine box_event ?hg (N := 3) ?hd (cs := #[.slice A0_0 l0_0.length c0_0, .slice A0_1 l0_1.length c0_1, .slice A0_2 l0_2.length c0_2, .slice A0_3 l0_3.length c0_3, .slice A0_4 l0_4.length c0_4]) (t := 80) ?hr ?_; (case hd => rfl); (case hg => rfl); (case hr => first | (go_simp; done) | (go_simp; rfl)); intro gp hg w1 hbox hb; have GE_gp : Aside0 (w.heap.size ≤ gp) := ⟨by rw [hg]; exact below_size HB0.out⟩; have HB1 := Aside0.mk (below_step HB0.out hb); have BK1_gp := Aside0.mk hbox; clear hbox hb hg) | ((with_reducible refine gate_dst (N := 4) rfl ?_); refine box_event ?hg (N := 4) ?hd (cs := #[.int .i64 a1_0, .int .i64 a1_1, .int .i64 a1_2, .int .i64 a1_3, .int .i64 a1_4, .bool a1_5, .int .i64 a1_6, .slice A1_7 l1_7.length c1_7]) (t := 82) ?hr ?_; (case hd => rfl); (case hg => rfl); (case hr => first | (go_simp; done) | (go_simp; rfl)); intro gx hg w2 hbox hb; have GE_gx : Aside0 (w.heap.size ≤ gx) := ⟨by rw [hg]; exact below_size HB1.out⟩; have NE_gp_gx : Aside0 (gp ≠ gx) := ⟨by have h_ := blk_lt BK1_gp.out; omega⟩; have NE_gx_gp : Aside0 (gx ≠ gp) := ⟨fun h_ => NE_gp_gx.out h_.symm⟩; have HB2 := Aside0.mk (below_step HB1.out hb); have BK2_gp := Aside0.mk (blk_below BK1_gp.out hb); have BK2_gx := Aside0.mk hbox; clear hbox hb hg; have hc2_gx_0 : w2.cell? ⟨gx, 0, none⟩ = some (.int .i64 a1_0) := (blk_cell BK2_gx.out 0).trans rfl; have hc2_gx_7 : w2.cell? ⟨gx, 7, none⟩ = some (.slice A1_7 l1_7.length c1_7) := (blk_cell BK2_gx.out 7).trans rfl) | ((with_reducible refine gate_dst (N := 6) rfl ?_); refine box_event ?hg (N := 6) ?hd (cs := #[.int .i64 0, .int .i64 0, .int .i64 0, .int .i64 0, .int .i64 0, .bool false, .int .i64 0, .slice none 0 0]) (t := 82) ?hr ?_; (case hd => rfl); (case hg => rfl); (case hr => first | (go_simp; done) | (go_simp; rfl)); intro gr hg w3 hbox hb; have GE_gr : Aside0 (w.heap.size ≤ gr) := ⟨by rw [hg]; exact below_size HB2.out⟩; have NE_gp_gr : Aside0 (gp ≠ gr) := ⟨by have h_ := blk_lt BK2_gp.out; omega⟩; have NE_gr_gp : Aside0 (gr ≠ gp) := ⟨fun h_ => NE_gp_gr.out h_.symm⟩; have NE_gx_gr : Aside0 (gx ≠ gr) := ⟨by have h_ := blk_lt BK2_gx.out; omega⟩; have NE_gr_gx : Aside0 (gr ≠ gx) := ⟨fun h_ => NE_gx_gr.out h_.symm⟩; have HB3 := Aside0.mk (below_step HB2.out hb); have BK3_gp := Aside0.mk (blk_below BK2_gp.out hb); have BK3_gx := Aside0.mk (blk_below BK2_gx.out hb); have BK3_gr := Aside0.mk hbox; clear hbox hb hg; clear hc2_gx_0 hc2_gx_7; have hc3_gx_0 : w3.cell? ⟨gx, 0, none⟩ = some (.int .i64 a1_0) := (blk_cell BK3_gx.out 0).trans rfl; have hc3_gx_7 : w3.cell? ⟨gx, 7, none⟩ = some (.slice A1_7 l1_7.length c1_7) := (blk_cell BK3_gx.out 7).trans rfl) | ((with_reducible refine gate_dst (N := 21) rfl ?_); refine load_event ?hg (t := 80) (x := ?xl47) ?ho (off := 0) [.slice A0_0 l0_0.length c0_0, .slice A0_1 l0_1.length c0_1, .slice A0_2 l0_2.length c0_2, .slice A0_3 l0_3.length c0_3, .slice A0_4 l0_4.length c0_4] BK3_gp.out ?hx ?hs Tryd.underlying80 rfl ?ht ?_; (case ho => rfl); (case hg => rfl); (case hx => rfl); (case hs => rfl); (case ht => kernel_rfl)) | ((with_reducible refine gate_dst (N := 22) rfl ?_); refine load_event ?hg (t := 82) (x := ?xl48) ?ho (off := 0) [.int .i64 a1_0, .int .i64 a1_1, .int .i64 a1_2, .int .i64 a1_3, .int .i64 a1_4, .bool a1_5, .int .i64 a1_6, .slice A1_7 l1_7.length c1_7] BK3_gx.out ?hx ?hs Tryd.underlying82 rfl ?ht ?_; (case ho => rfl); (case hg => rfl); (case hx => rfl); (case hs => rfl); (case ht => kernel_rfl)) | (go_at_call 51; refine (phase_Right.calls k A0_0 c0_0 l0_0 A0_1 c0_1 l0_1 A0_2 c0_2 l0_2 A0_3 c0_3 l0_3 A0_4 c0_4 l0_4 a1_0 a1_1 a1_2 a1_3 a1_4 a1_5 a1_6 A1_7 c1_7 l1_7 true _ (Kd.C_below HR0_0.out HB3.out) HC0_0.out (Kd.C_below HR0_1.out HB3.out) HC0_1.out (Kd.C_below HR0_2.out HB3.out) HC0_2.out (Kd.C_below HR0_3.out HB3.out) HC0_3.out (Kd.C_below HR0_4.out HB3.out) HC0_4.out (Kd.C_below HR1_7.out HB3.out) HC1_7.out HRT.out (UT.below HT0.out HB3.out)).mono ?_; rintro e_ w4 ⟨rfl, hb⟩; have HB4 := Aside0.mk (below_step HB3.out hb); have BK4_gp := Aside0.mk (blk_below BK3_gp.out hb); have BK4_gx := Aside0.mk (blk_below BK3_gx.out hb); have BK4_gr := Aside0.mk (blk_below BK3_gr.out hb); clear hb; clear hc3_gx_0 hc3_gx_7; have hc4_gx_0 : w4.cell? ⟨gx, 0, none⟩ = some (.int .i64 a1_0) := (blk_cell BK4_gx.out 0).trans rfl; have hc4_gx_7 : w4.cell? ⟨gx, 7, none⟩ = some (.slice A1_7 l1_7.length c1_7) := (blk_cell BK4_gx.out 7).trans rfl) | (go_at_call 87; refine (chart_Acting.calls a1_0 true _ HA.out).mono ?_; rintro e_ w5 ⟨rfl, hdr⟩; have hb := hdr.below; clear hdr; have HB5 := Aside0.mk (below_step HB4.out hb); have BK5_gp := Aside0.mk (blk_below BK4_gp.out hb); have BK5_gx := Aside0.mk (blk_below BK4_gx.out hb); have BK5_gr := Aside0.mk (blk_below BK4_gr.out hb); clear hb; clear hc4_gx_0 hc4_gx_7; have hc5_gx_0 : w5.cell? ⟨gx, 0, none⟩ = some (.int .i64 a1_0) := (blk_cell BK5_gx.out 0).trans rfl; have hc5_gx_7 : w5.cell? ⟨gx, 7, none⟩ = some (.slice A1_7 l1_7.length c1_7) := (blk_cell BK5_gx.out 7).trans rfl) | ((with_reducible refine gate_dst (N := 48) rfl ?_); refine load_event ?hg (t := 80) (x := ?xl49) ?ho (off := 0) [.slice A0_0 l0_0.length c0_0, .slice A0_1 l0_1.length c0_1, .slice A0_2 l0_2.length c0_2, .slice A0_3 l0_3.length c0_3, .slice A0_4 l0_4.length c0_4] BK5_gp.out ?hx ?hs Tryd.underlying80 rfl ?ht ?_; (case ho => rfl); (case hg => rfl); (case hx => rfl); (case hs => rfl); (case ht => kernel_rfl)) | (go_at_call 83; refine (phase_find.calls (fun k_ => k_ < w.heap.size) A0_0 c0_0 l0_0 (fun k_ => k_ < w.heap.size) A0_1 c0_1 l0_1 (fun k_ => k_ < w.heap.size) A0_2 c0_2 l0_2 (fun k_ => k_ < w.heap.size) A0_3 c0_3 l0_3 (fun k_ => k_ < w.heap.size) A0_4 c0_4 l0_4 a1_0 lv okv _ (Kd.V_mk HC0_0.out (Kd.F_below (Kd.C_F k67_heap HR0_0.out) HB5.out)) (Kd.V_mk HC0_1.out (Kd.F_below (Kd.C_F k67_heap HR0_1.out) HB5.out)) (Kd.V_mk HC0_2.out (Kd.F_below (Kd.C_F k67_heap HR0_2.out) HB5.out)) (Kd.V_mk HC0_3.out (Kd.F_below (Kd.C_F k67_heap HR0_3.out) HB5.out)) (Kd.V_mk HC0_4.out (Kd.F_below (Kd.C_F k67_heap HR0_4.out) HB5.out)) HF.out).mono ?_; rintro e_ w6 ⟨vl, rfl, hv, hb⟩; obtain ⟨Al, cl, rfl, hcl, hfl⟩ := hv; have HCl := Aside0.mk hcl; have HLv := Aside0.mk (Kd.F_now hfl); clear hcl hfl; have HB6 := Aside0.mk (below_step HB5.out hb); have BK6_gp := Aside0.mk (blk_below BK5_gp.out hb); have BK6_gx := Aside0.mk (blk_below BK5_gx.out hb); have BK6_gr := Aside0.mk (blk_below BK5_gr.out hb); clear hb; clear hc5_gx_0 hc5_gx_7; have hc6_gx_0 : w6.cell? ⟨gx, 0, none⟩ = some (.int .i64 a1_0) := (blk_cell BK6_gx.out 0).trans rfl; have hc6_gx_7 : w6.cell? ⟨gx, 7, none⟩ = some (.slice A1_7 l1_7.length c1_7) := (blk_cell BK6_gx.out 7).trans rfl))
 (try simp only [Act.put, List.setIfInBounds_toArray, List.set_cons_zero, List.set_cons_succ])
 refine start_ (n := 20) (S := fun w' => w'.cell? ⟨gx, 1, none⟩ = some (.int .i64 a1_1) ∧ w'.cell? ⟨gx, 2, none⟩ = some (.int .i64 a1_2) ∧ w'.cell? ⟨gx, 7, none⟩ = some (.slice A1_7 l1_7.length c1_7)) (ds := []) #[false, false, false, false, false, false, false, false, false, false, false, false, false, false, false, false, false, false, false, false] (by kernel_rfl) rfl rfl ⟨(blk_cell BK6_gx.out 1).trans rfl, (blk_cell BK6_gx.out 2).trans rfl, (blk_cell BK6_gx.out 7).trans rfl⟩ (fun hHeld => ?_)
 have hb : Below w6.heap.size w6 w6.drew := (Below.refl _ _).drew
 have HB7 := Aside0.mk (below_step HB6.out hb)
 have BK7_gp := Aside0.mk (blk_below BK6_gp.out hb)
 have BK7_gx := Aside0.mk (blk_below BK6_gx.out hb)
 have BK7_gr := Aside0.mk (blk_below BK6_gr.out hb)
 have HCW7_l := Aside0.mk (Kd.C_below HLv.out hb)
 clear hb
 generalize w6.drew = w7 at HB7 BK7_gp BK7_gx BK7_gr HCW7_l hHeld ⊢
 refine qpk 0 (some 55) ?_
 refine qpk 1 (some 56) ?_
 refine qpk 2 (some 57) ?_
 refine qpk 4 (some 59) ?_
 refine qpk 6 (some 61) ?_
 refine take_ (i := 3) (N := some 58) (v := ?_) (a' := ?_) #[Y,Y,Y,Y,Y,Z,Y,Z,Z,Z,Z,Z,Z,Z,Z,Z,Z,Z,Z,Z] rfl rfl (by kernel_rfl) (fun _ _ _ h => h) (Or.inl ⟨by rfl, ?_⟩) hHeld ?_ ?_
 rotate_left
 ·rintro w' ⟨s0, s1_, s2_⟩
  go_simp
  with_reducible rfl
 rotate_left
 ·simp only [Act.put, List.setIfInBounds_toArray, List.set_cons_zero, List.set_cons_succ, i64_w, i32_w]
  rfl
 refine take_ (i := 5) (N := some 60) (v := ?_) (a' := ?_) #[Y,Y,Y,Y,Y,Y,Y,Z,Z,Z,Z,Z,Z,Z,Z,Z,Z,Z,Z,Z] rfl rfl (by kernel_rfl) (fun _ _ _ h => h) (Or.inl ⟨by rfl, ?_⟩) hHeld ?_ ?_
 rotate_left
 ·rintro w' ⟨s0, s1_, s2_⟩
  go_simp
  with_reducible rfl
 rotate_left
 ·simp only [Act.put, List.setIfInBounds_toArray, List.set_cons_zero, List.set_cons_succ, i64_w, i32_w]
  rfl
 refine join_ (σ := Value × Value × Value × Nat) 4 #[Y,Y,Y,Y,Y,Y,Y,Y,Y,Y,Y,Y,Y,Y,Y,Y,Z,Z,Z,Z] (fun s_ => [(62, s_.1), (63, s_.2.1), (64, .tuple #[.agg #[.int .i64 s1, .int .i64 s2], s_.2.2.1, .bool s4, .int .i64 s5]), (54, .tuple #[.agg #[.int .i64 s1, .int .i64 s2], s_.2.2.1, .bool s4, .int .i64 s5]), (65, .agg #[.int .i64 s1, .int .i64 s2]), (66, s_.2.2.1), (67, .bool s4), (68, .int .i64 s5), (12, .pointer (some ⟨s_.2.2.2, 0, none⟩))]) (fun s_ w' => (w'.cell? ⟨gx, 1, none⟩ = some (.int .i64 a1_1) ∧ w'.cell? ⟨gx, 2, none⟩ = some (.int .i64 a1_2) ∧ w'.cell? ⟨gx, 7, none⟩ = some (.slice A1_7 l1_7.length c1_7)) ∧ Kd.R k72 72 w' w.heap.size (fun _ => True) s_.2.2.1 s3 ∧ (w'.heap[gx]? = some (.cells #[.int .i64 a1_0, .int .i64 a1_1, .int .i64 a1_2, .int .i64 a1_3, .int .i64 a1_4, .bool a1_5, .int .i64 a1_6, .slice A1_7 l1_7.length c1_7] 82 (0, 0))) ∧ (w'.heap[gr]? = some (.cells #[.int .i64 0, .int .i64 0, .int .i64 0, .int .i64 0, .int .i64 0, .bool false, .int .i64 0, .slice none 0 0] 82 (0, 0))) ∧ (w'.heap[s_.2.2.2]? = some (.cells #[.int .i64 0, .int .i64 0] 57 (0, 0))) ∧ (w.heap.size ≤ s_.2.2.2) ∧ (gx ≠ s_.2.2.2) ∧ (gr ≠ s_.2.2.2) ∧ Below w.heap.size w w') ?_ ?_
 rotate_left
 ·intro hCont
  refine two_ (i := 7) (j := 15) (Ni := some 62) (Nj := some 12) #[Y,Y,Y,Y,Y,Y,Y,Y,Z,Z,Z,Z,Z,Z,Z,Z,Z,Z,Z,Z] #[Y,Y,Y,Y,Y,Y,Y,Z,Z,Z,Z,Z,Z,Z,Z,Y,Z,Z,Z,Z] rfl rfl rfl rfl (by kernel_rfl) (by decide) (by decide) (fun K hK => ?_) (fun K hK => ?_)
  ·skip
   refine slice_step ?hg (N := 62) ?hd (cs := #[.slice A1_7 l1_7.length c1_7, .slice A2 l2.length c2]) (t := 35) (n := 2) ?hr ?_
   (case hd => rfl)
   (case hg => rfl)
   (case hr => first | (go_simp; done) | (go_simp; rfl))
   intro gs hg w8 hbox hb
   have GE_gs : Aside0 (w.heap.size ≤ gs) := ⟨by rw [hg]; exact below_size HB7.out⟩
   have NE_gp_gs : Aside0 (gp ≠ gs) := ⟨by have h_ := blk_lt BK7_gp.out; omega⟩
   have NE_gx_gs : Aside0 (gx ≠ gs) := ⟨by have h_ := blk_lt BK7_gx.out; omega⟩
   have NE_gr_gs : Aside0 (gr ≠ gs) := ⟨by have h_ := blk_lt BK7_gr.out; omega⟩
   have HB8 := Aside0.mk (below_step HB7.out hb)
   have BK8_gp := Aside0.mk (blk_below BK7_gp.out hb)
   have BK8_gx := Aside0.mk (blk_below BK7_gx.out hb)
   have BK8_gr := Aside0.mk (blk_below BK7_gr.out hb)
   have HCW8_l := Aside0.mk (Kd.C_below HCW7_l.out hb)
   have BK8_gs := Aside0.mk hbox
   clear hbox hb hg
   refine hK.out _ _ ⟨(blk_cell BK8_gx.out 1).trans rfl, (blk_cell BK8_gx.out 2).trans rfl, (blk_cell BK8_gx.out 7).trans rfl⟩ (fun hHeld => ?_)
   clear hK K
   refine norm_ (a' := ?_) ?_ ?_
   rotate_left
   ·show Act.put _ (some 62) _ = _
    simp only [Act.put, List.setIfInBounds_toArray, List.set_cons_zero, List.set_cons_succ, i64_w, i32_w]
    rfl
   refine two_ (i := 8) (j := 15) (Ni := some 63) (Nj := some 12) #[Y,Y,Y,Y,Y,Y,Y,Y,Y,Z,Z,Z,Z,Z,Z,Z,Z,Z,Z,Z] #[Y,Y,Y,Y,Y,Y,Y,Y,Z,Z,Z,Z,Z,Z,Z,Y,Z,Z,Z,Z] rfl rfl rfl rfl (by kernel_rfl) (by decide) (by decide) (fun K hK => ?_) (fun K hK => ?_)
   ·skip
    refine goes_ Tryd.func88 (by kernel_rfl) rfl #[.slice (some ⟨gs, 0, none⟩) 2 2] (by rfl) rfl rfl (by (try simp only [List.map_toArray, List.map_cons, List.map_nil]); first | done | rfl) ?_
    refine (concatC_calls gs A1_7 A2 c1_7 c2 l1_7 l2 _ BK8_gs.out (Kd.C_below HR1_7.out HB8.out) (Kd.C_below HR2.out HB8.out) HL7.out HL2.out).mono ?_
    rintro e_ w9 ⟨v0_, rfl, hr, hb⟩
    obtain ⟨Ac, cc, rfl, hcc, hCc⟩ := Kd.R_reads hr
    have HCC := Aside0.mk hcc
    have HCv9 := Aside0.mk hCc
    clear hcc hCc hr
    refine ⟨_, rfl, ?_⟩
    have HB9 := Aside0.mk (below_step HB8.out hb)
    have BK9_gp := Aside0.mk (blk_below BK8_gp.out hb)
    have BK9_gx := Aside0.mk (blk_below BK8_gx.out hb)
    have BK9_gr := Aside0.mk (blk_below BK8_gr.out hb)
    have BK9_gs := Aside0.mk (blk_below BK8_gs.out hb)
    have HCW9_l := Aside0.mk (Kd.C_below HCW8_l.out hb)
    clear hb
    refine hK.out _ _ ⟨(blk_cell BK9_gx.out 1).trans rfl, (blk_cell BK9_gx.out 2).trans rfl, (blk_cell BK9_gx.out 7).trans rfl⟩ (fun hHeld => ?_)
    clear hK K
    refine norm_ (a' := ?_) ?_ ?_
    rotate_left
    ·show Act.put _ (some 63) _ = _
     simp only [Act.put, List.setIfInBounds_toArray, List.set_cons_zero, List.set_cons_succ, i64_w, i32_w]
     rfl
    refine two_ (i := 9) (j := 15) (Ni := some 64) (Nj := some 12) #[Y,Y,Y,Y,Y,Y,Y,Y,Y,Y,Z,Z,Z,Z,Z,Z,Z,Z,Z,Z] #[Y,Y,Y,Y,Y,Y,Y,Y,Y,Z,Z,Z,Z,Z,Z,Y,Z,Z,Z,Z] rfl rfl rfl rfl (by kernel_rfl) (by decide) (by decide) (fun K hK => ?_) (fun K hK => ?_)
    ·skip
     refine goes_ Tryd.func38 (by kernel_rfl) rfl #[.slice Al lv.length cl, .agg #[.int .i64 a1_1, .int .i64 a1_2], .slice Ac (l1_7 ++ l2).length cc] (by rfl) rfl rfl (by (try simp only [List.map_toArray, List.map_cons, List.map_nil]); first | done | rfl) ?_
     refine (prog_Scan.calls k Al cl lv a1_1 a1_2 Ac cc (l1_7 ++ l2) s1 s2 s3 s4 s5 _ HCW9_l.out HCl.out HCv9.out HCC.out HPS.out (UT.below HT0.out HB9.out)).mono ?_
     rintro e_ w10 ⟨ve, rfl, hr, hb⟩
     have HE10_ := Aside0.mk (Kd.R_lower hr (below_size HB9.out))
     clear hr
     refine ⟨_, rfl, ?_⟩
     have HB10 := Aside0.mk (below_step HB9.out hb)
     have BK10_gp := Aside0.mk (blk_below BK9_gp.out hb)
     have BK10_gx := Aside0.mk (blk_below BK9_gx.out hb)
     have BK10_gr := Aside0.mk (blk_below BK9_gr.out hb)
     have BK10_gs := Aside0.mk (blk_below BK9_gs.out hb)
     have HCW10_l := Aside0.mk (Kd.C_below HCW9_l.out hb)
     have HCW10_c := Aside0.mk (Kd.C_below HCv9.out hb)
     clear hb
     refine hK.out _ _ ⟨(blk_cell BK10_gx.out 1).trans rfl, (blk_cell BK10_gx.out 2).trans rfl, (blk_cell BK10_gx.out 7).trans rfl⟩ (fun hHeld => ?_)
     clear hK K
     refine norm_ (a' := ?_) ?_ ?_
     rotate_left
     ·show Act.put _ (some 64) _ = _
      simp only [Act.put, List.setIfInBounds_toArray, List.set_cons_zero, List.set_cons_succ, i64_w, i32_w]
      rfl
     refine qpk 10 (some 54) ?_
     refine qpk 11 (some 65) ?_
     refine qpk 12 (some 66) ?_
     refine qpk 13 (some 67) ?_
     refine qpk 14 (some 68) ?_
     refine one_ (i := 15) (N := some 12) #[Y,Y,Y,Y,Y,Y,Y,Y,Y,Y,Y,Y,Y,Y,Y,Y,Z,Z,Z,Z] rfl rfl (by kernel_rfl) (by decide) (fun K hK => ?_)
     refine box_step ?hg (N := 12) ?hd (cs := #[.int .i64 0, .int .i64 0]) (t := 57) ?hr ?_
     (case hd => rfl)
     (case hg => rfl)
     (case hr => first | (go_simp; done) | (go_simp; rfl))
     intro gm hg w11 hbox hb
     have GE_gm : Aside0 (w.heap.size ≤ gm) := ⟨by rw [hg]; exact below_size HB10.out⟩
     have NE_gp_gm : Aside0 (gp ≠ gm) := ⟨by have h_ := blk_lt BK10_gp.out; omega⟩
     have NE_gx_gm : Aside0 (gx ≠ gm) := ⟨by have h_ := blk_lt BK10_gx.out; omega⟩
     have NE_gr_gm : Aside0 (gr ≠ gm) := ⟨by have h_ := blk_lt BK10_gr.out; omega⟩
     have NE_gs_gm : Aside0 (gs ≠ gm) := ⟨by have h_ := blk_lt BK10_gs.out; omega⟩
     have HB11 := Aside0.mk (below_step HB10.out hb)
     have BK11_gp := Aside0.mk (blk_below BK10_gp.out hb)
     have BK11_gx := Aside0.mk (blk_below BK10_gx.out hb)
     have BK11_gr := Aside0.mk (blk_below BK10_gr.out hb)
     have BK11_gs := Aside0.mk (blk_below BK10_gs.out hb)
     have HR11_e := Aside0.mk (Kd.R_below HE10_.out hb)
     have HCW11_l := Aside0.mk (Kd.C_below HCW10_l.out hb)
     have HCW11_c := Aside0.mk (Kd.C_below HCW10_c.out hb)
     have BK11_gm := Aside0.mk hbox
     clear hbox hb hg
     refine hK.out _ _ ⟨(blk_cell BK11_gx.out 1).trans rfl, (blk_cell BK11_gx.out 2).trans rfl, (blk_cell BK11_gx.out 7).trans rfl⟩ (fun hHeld => ?_)
     clear hK K
     refine norm_ (a' := ?_) ?_ ?_
     rotate_left
     ·show Act.put _ (some 12) _ = _
      simp only [Act.put, List.setIfInBounds_toArray, List.set_cons_zero, List.set_cons_succ, i64_w, i32_w]
      rfl
     exact norm_ (by simp only [putAll, Act.put, List.setIfInBounds_toArray, List.set_cons_zero, List.set_cons_succ]) (hCont (.slice (some ⟨gs, 0, none⟩) 2 2, .slice Ac (l1_7 ++ l2).length cc, ve, gm) _ ⟨hHeld, HR11_e.out, BK11_gx.out, BK11_gr.out, BK11_gm.out, GE_gm.out, NE_gx_gm.out, NE_gr_gm.out, HB11.out⟩)
    skip
    refine box_step ?hg (N := 12) ?hd (cs := #[.int .i64 0, .int .i64 0]) (t := 57) ?hr ?_
    (case hd => rfl)
    (case hg => rfl)
    (case hr => first | (go_simp; done) | (go_simp; rfl))
    intro gm hg w10 hbox hb
    have GE_gm : Aside0 (w.heap.size ≤ gm) := ⟨by rw [hg]; exact below_size HB9.out⟩
    have NE_gp_gm : Aside0 (gp ≠ gm) := ⟨by have h_ := blk_lt BK9_gp.out; omega⟩
    have NE_gx_gm : Aside0 (gx ≠ gm) := ⟨by have h_ := blk_lt BK9_gx.out; omega⟩
    have NE_gr_gm : Aside0 (gr ≠ gm) := ⟨by have h_ := blk_lt BK9_gr.out; omega⟩
    have NE_gs_gm : Aside0 (gs ≠ gm) := ⟨by have h_ := blk_lt BK9_gs.out; omega⟩
    have HB10 := Aside0.mk (below_step HB9.out hb)
    have BK10_gp := Aside0.mk (blk_below BK9_gp.out hb)
    have BK10_gx := Aside0.mk (blk_below BK9_gx.out hb)
    have BK10_gr := Aside0.mk (blk_below BK9_gr.out hb)
    have BK10_gs := Aside0.mk (blk_below BK9_gs.out hb)
    have HCW10_l := Aside0.mk (Kd.C_below HCW9_l.out hb)
    have HCW10_c := Aside0.mk (Kd.C_below HCv9.out hb)
    have BK10_gm := Aside0.mk hbox
    clear hbox hb hg
    refine hK.out _ _ ⟨(blk_cell BK10_gx.out 1).trans rfl, (blk_cell BK10_gx.out 2).trans rfl, (blk_cell BK10_gx.out 7).trans rfl⟩ (fun hHeld => ?_)
    clear hK K
    refine norm_ (a' := ?_) ?_ ?_
    rotate_left
    ·show Act.put _ (some 12) _ = _
     simp only [Act.put, List.setIfInBounds_toArray, List.set_cons_zero, List.set_cons_succ, i64_w, i32_w]
     rfl
    refine one_ (i := 9) (N := some 64) #[Y,Y,Y,Y,Y,Y,Y,Y,Y,Y,Z,Z,Z,Z,Z,Y,Z,Z,Z,Z] rfl rfl (by kernel_rfl) (by decide) (fun K hK => ?_)
    refine goes_ Tryd.func38 (by kernel_rfl) rfl #[.slice Al lv.length cl, .agg #[.int .i64 a1_1, .int .i64 a1_2], .slice Ac (l1_7 ++ l2).length cc] (by rfl) rfl rfl (by (try simp only [List.map_toArray, List.map_cons, List.map_nil]); first | done | rfl) ?_
    refine (prog_Scan.calls k Al cl lv a1_1 a1_2 Ac cc (l1_7 ++ l2) s1 s2 s3 s4 s5 _ HCW10_l.out HCl.out HCW10_c.out HCC.out HPS.out (UT.below HT0.out HB10.out)).mono ?_
    rintro e_ w11 ⟨ve, rfl, hr, hb⟩
    have HE11_ := Aside0.mk (Kd.R_lower hr (below_size HB10.out))
    clear hr
    refine ⟨_, rfl, ?_⟩
    have HB11 := Aside0.mk (below_step HB10.out hb)
    have BK11_gp := Aside0.mk (blk_below BK10_gp.out hb)
    have BK11_gx := Aside0.mk (blk_below BK10_gx.out hb)
    have BK11_gr := Aside0.mk (blk_below BK10_gr.out hb)
    have BK11_gs := Aside0.mk (blk_below BK10_gs.out hb)
    have BK11_gm := Aside0.mk (blk_below BK10_gm.out hb)
    have HCW11_l := Aside0.mk (Kd.C_below HCW10_l.out hb)
    have HCW11_c := Aside0.mk (Kd.C_below HCW10_c.out hb)
    clear hb
    refine hK.out _ _ ⟨(blk_cell BK11_gx.out 1).trans rfl, (blk_cell BK11_gx.out 2).trans rfl, (blk_cell BK11_gx.out 7).trans rfl⟩ (fun hHeld => ?_)
    clear hK K
    refine norm_ (a' := ?_) ?_ ?_
    rotate_left
    ·show Act.put _ (some 64) _ = _
     simp only [Act.put, List.setIfInBounds_toArray, List.set_cons_zero, List.set_cons_succ, i64_w, i32_w]
     rfl
    refine qpk 10 (some 54) ?_
    refine qpk 11 (some 65) ?_
    refine qpk 12 (some 66) ?_
    refine qpk 13 (some 67) ?_
    refine qpk 14 (some 68) ?_
    exact norm_ (by simp only [putAll, Act.put, List.setIfInBounds_toArray, List.set_cons_zero, List.set_cons_succ]) (hCont (.slice (some ⟨gs, 0, none⟩) 2 2, .slice Ac (l1_7 ++ l2).length cc, ve, gm) _ ⟨hHeld, HE11_.out, BK11_gx.out, BK11_gr.out, BK11_gm.out, GE_gm.out, NE_gx_gm.out, NE_gr_gm.out, HB11.out⟩)
   skip
   refine box_step ?hg (N := 12) ?hd (cs := #[.int .i64 0, .int .i64 0]) (t := 57) ?hr ?_
   (case hd => rfl)
   (case hg => rfl)
   (case hr => first | (go_simp; done) | (go_simp; rfl))
   intro gm hg w9 hbox hb
   have GE_gm : Aside0 (w.heap.size ≤ gm) := ⟨by rw [hg]; exact below_size HB8.out⟩
   have NE_gp_gm : Aside0 (gp ≠ gm) := ⟨by have h_ := blk_lt BK8_gp.out; omega⟩
   have NE_gx_gm : Aside0 (gx ≠ gm) := ⟨by have h_ := blk_lt BK8_gx.out; omega⟩
   have NE_gr_gm : Aside0 (gr ≠ gm) := ⟨by have h_ := blk_lt BK8_gr.out; omega⟩
   have NE_gs_gm : Aside0 (gs ≠ gm) := ⟨by have h_ := blk_lt BK8_gs.out; omega⟩
   have HB9 := Aside0.mk (below_step HB8.out hb)
   have BK9_gp := Aside0.mk (blk_below BK8_gp.out hb)
   have BK9_gx := Aside0.mk (blk_below BK8_gx.out hb)
   have BK9_gr := Aside0.mk (blk_below BK8_gr.out hb)
   have BK9_gs := Aside0.mk (blk_below BK8_gs.out hb)
   have HCW9_l := Aside0.mk (Kd.C_below HCW8_l.out hb)
   have BK9_gm := Aside0.mk hbox
   clear hbox hb hg
   refine hK.out _ _ ⟨(blk_cell BK9_gx.out 1).trans rfl, (blk_cell BK9_gx.out 2).trans rfl, (blk_cell BK9_gx.out 7).trans rfl⟩ (fun hHeld => ?_)
   clear hK K
   refine norm_ (a' := ?_) ?_ ?_
   rotate_left
   ·show Act.put _ (some 12) _ = _
    simp only [Act.put, List.setIfInBounds_toArray, List.set_cons_zero, List.set_cons_succ, i64_w, i32_w]
    rfl
   refine one_ (i := 8) (N := some 63) #[Y,Y,Y,Y,Y,Y,Y,Y,Y,Z,Z,Z,Z,Z,Z,Y,Z,Z,Z,Z] rfl rfl (by kernel_rfl) (by decide) (fun K hK => ?_)
   refine goes_ Tryd.func88 (by kernel_rfl) rfl #[.slice (some ⟨gs, 0, none⟩) 2 2] (by rfl) rfl rfl (by (try simp only [List.map_toArray, List.map_cons, List.map_nil]); first | done | rfl) ?_
   refine (concatC_calls gs A1_7 A2 c1_7 c2 l1_7 l2 _ BK9_gs.out (Kd.C_below HR1_7.out HB9.out) (Kd.C_below HR2.out HB9.out) HL7.out HL2.out).mono ?_
   rintro e_ w10 ⟨v0_, rfl, hr, hb⟩
   obtain ⟨Ac, cc, rfl, hcc, hCc⟩ := Kd.R_reads hr
   have HCC := Aside0.mk hcc
   have HCv10 := Aside0.mk hCc
   clear hcc hCc hr
   refine ⟨_, rfl, ?_⟩
   have HB10 := Aside0.mk (below_step HB9.out hb)
   have BK10_gp := Aside0.mk (blk_below BK9_gp.out hb)
   have BK10_gx := Aside0.mk (blk_below BK9_gx.out hb)
   have BK10_gr := Aside0.mk (blk_below BK9_gr.out hb)
   have BK10_gs := Aside0.mk (blk_below BK9_gs.out hb)
   have BK10_gm := Aside0.mk (blk_below BK9_gm.out hb)
   have HCW10_l := Aside0.mk (Kd.C_below HCW9_l.out hb)
   clear hb
   refine hK.out _ _ ⟨(blk_cell BK10_gx.out 1).trans rfl, (blk_cell BK10_gx.out 2).trans rfl, (blk_cell BK10_gx.out 7).trans rfl⟩ (fun hHeld => ?_)
   clear hK K
   refine norm_ (a' := ?_) ?_ ?_
   rotate_left
   ·show Act.put _ (some 63) _ = _
    simp only [Act.put, List.setIfInBounds_toArray, List.set_cons_zero, List.set_cons_succ, i64_w, i32_w]
    rfl
   refine one_ (i := 9) (N := some 64) #[Y,Y,Y,Y,Y,Y,Y,Y,Y,Y,Z,Z,Z,Z,Z,Y,Z,Z,Z,Z] rfl rfl (by kernel_rfl) (by decide) (fun K hK => ?_)
   refine goes_ Tryd.func38 (by kernel_rfl) rfl #[.slice Al lv.length cl, .agg #[.int .i64 a1_1, .int .i64 a1_2], .slice Ac (l1_7 ++ l2).length cc] (by rfl) rfl rfl (by (try simp only [List.map_toArray, List.map_cons, List.map_nil]); first | done | rfl) ?_
   refine (prog_Scan.calls k Al cl lv a1_1 a1_2 Ac cc (l1_7 ++ l2) s1 s2 s3 s4 s5 _ HCW10_l.out HCl.out HCv10.out HCC.out HPS.out (UT.below HT0.out HB10.out)).mono ?_
   rintro e_ w11 ⟨ve, rfl, hr, hb⟩
   have HE11_ := Aside0.mk (Kd.R_lower hr (below_size HB10.out))
   clear hr
   refine ⟨_, rfl, ?_⟩
   have HB11 := Aside0.mk (below_step HB10.out hb)
   have BK11_gp := Aside0.mk (blk_below BK10_gp.out hb)
   have BK11_gx := Aside0.mk (blk_below BK10_gx.out hb)
   have BK11_gr := Aside0.mk (blk_below BK10_gr.out hb)
   have BK11_gs := Aside0.mk (blk_below BK10_gs.out hb)
   have BK11_gm := Aside0.mk (blk_below BK10_gm.out hb)
   have HCW11_l := Aside0.mk (Kd.C_below HCW10_l.out hb)
   have HCW11_c := Aside0.mk (Kd.C_below HCv10.out hb)
   clear hb
   refine hK.out _ _ ⟨(blk_cell BK11_gx.out 1).trans rfl, (blk_cell BK11_gx.out 2).trans rfl, (blk_cell BK11_gx.out 7).trans rfl⟩ (fun hHeld => ?_)
   clear hK K
   refine norm_ (a' := ?_) ?_ ?_
   rotate_left
   ·show Act.put _ (some 64) _ = _
    simp only [Act.put, List.setIfInBounds_toArray, List.set_cons_zero, List.set_cons_succ, i64_w, i32_w]
    rfl
   refine qpk 10 (some 54) ?_
   refine qpk 11 (some 65) ?_
   refine qpk 12 (some 66) ?_
   refine qpk 13 (some 67) ?_
   refine qpk 14 (some 68) ?_
   exact norm_ (by simp only [putAll, Act.put, List.setIfInBounds_toArray, List.set_cons_zero, List.set_cons_succ]) (hCont (.slice (some ⟨gs, 0, none⟩) 2 2, .slice Ac (l1_7 ++ l2).length cc, ve, gm) _ ⟨hHeld, HE11_.out, BK11_gx.out, BK11_gr.out, BK11_gm.out, GE_gm.out, NE_gx_gm.out, NE_gr_gm.out, HB11.out⟩)
  skip
  refine box_step ?hg (N := 12) ?hd (cs := #[.int .i64 0, .int .i64 0]) (t := 57) ?hr ?_
  (case hd => rfl)
  (case hg => rfl)
  (case hr => first | (go_simp; done) | (go_simp; rfl))
  intro gm hg w8 hbox hb
  have GE_gm : Aside0 (w.heap.size ≤ gm) := ⟨by rw [hg]; exact below_size HB7.out⟩
  have NE_gp_gm : Aside0 (gp ≠ gm) := ⟨by have h_ := blk_lt BK7_gp.out; omega⟩
  have NE_gx_gm : Aside0 (gx ≠ gm) := ⟨by have h_ := blk_lt BK7_gx.out; omega⟩
  have NE_gr_gm : Aside0 (gr ≠ gm) := ⟨by have h_ := blk_lt BK7_gr.out; omega⟩
  have HB8 := Aside0.mk (below_step HB7.out hb)
  have BK8_gp := Aside0.mk (blk_below BK7_gp.out hb)
  have BK8_gx := Aside0.mk (blk_below BK7_gx.out hb)
  have BK8_gr := Aside0.mk (blk_below BK7_gr.out hb)
  have HCW8_l := Aside0.mk (Kd.C_below HCW7_l.out hb)
  have BK8_gm := Aside0.mk hbox
  clear hbox hb hg
  refine hK.out _ _ ⟨(blk_cell BK8_gx.out 1).trans rfl, (blk_cell BK8_gx.out 2).trans rfl, (blk_cell BK8_gx.out 7).trans rfl⟩ (fun hHeld => ?_)
  clear hK K
  refine norm_ (a' := ?_) ?_ ?_
  rotate_left
  ·show Act.put _ (some 12) _ = _
   simp only [Act.put, List.setIfInBounds_toArray, List.set_cons_zero, List.set_cons_succ, i64_w, i32_w]
   rfl
  refine one_ (i := 7) (N := some 62) #[Y,Y,Y,Y,Y,Y,Y,Y,Z,Z,Z,Z,Z,Z,Z,Y,Z,Z,Z,Z] rfl rfl (by kernel_rfl) (by decide) (fun K hK => ?_)
  refine slice_step ?hg (N := 62) ?hd (cs := #[.slice A1_7 l1_7.length c1_7, .slice A2 l2.length c2]) (t := 35) (n := 2) ?hr ?_
  (case hd => rfl)
  (case hg => rfl)
  (case hr => first | (go_simp; done) | (go_simp; rfl))
  intro gs hg w9 hbox hb
  have GE_gs : Aside0 (w.heap.size ≤ gs) := ⟨by rw [hg]; exact below_size HB8.out⟩
  have NE_gp_gs : Aside0 (gp ≠ gs) := ⟨by have h_ := blk_lt BK8_gp.out; omega⟩
  have NE_gx_gs : Aside0 (gx ≠ gs) := ⟨by have h_ := blk_lt BK8_gx.out; omega⟩
  have NE_gr_gs : Aside0 (gr ≠ gs) := ⟨by have h_ := blk_lt BK8_gr.out; omega⟩
  have NE_gm_gs : Aside0 (gm ≠ gs) := ⟨by have h_ := blk_lt BK8_gm.out; omega⟩
  have HB9 := Aside0.mk (below_step HB8.out hb)
  have BK9_gp := Aside0.mk (blk_below BK8_gp.out hb)
  have BK9_gx := Aside0.mk (blk_below BK8_gx.out hb)
  have BK9_gr := Aside0.mk (blk_below BK8_gr.out hb)
  have BK9_gm := Aside0.mk (blk_below BK8_gm.out hb)
  have HCW9_l := Aside0.mk (Kd.C_below HCW8_l.out hb)
  have BK9_gs := Aside0.mk hbox
  clear hbox hb hg
  refine hK.out _ _ ⟨(blk_cell BK9_gx.out 1).trans rfl, (blk_cell BK9_gx.out 2).trans rfl, (blk_cell BK9_gx.out 7).trans rfl⟩ (fun hHeld => ?_)
  clear hK K
  refine norm_ (a' := ?_) ?_ ?_
  rotate_left
  ·show Act.put _ (some 62) _ = _
   simp only [Act.put, List.setIfInBounds_toArray, List.set_cons_zero, List.set_cons_succ, i64_w, i32_w]
   rfl
  refine one_ (i := 8) (N := some 63) #[Y,Y,Y,Y,Y,Y,Y,Y,Y,Z,Z,Z,Z,Z,Z,Y,Z,Z,Z,Z] rfl rfl (by kernel_rfl) (by decide) (fun K hK => ?_)
  refine goes_ Tryd.func88 (by kernel_rfl) rfl #[.slice (some ⟨gs, 0, none⟩) 2 2] (by rfl) rfl rfl (by (try simp only [List.map_toArray, List.map_cons, List.map_nil]); first | done | rfl) ?_
  refine (concatC_calls gs A1_7 A2 c1_7 c2 l1_7 l2 _ BK9_gs.out (Kd.C_below HR1_7.out HB9.out) (Kd.C_below HR2.out HB9.out) HL7.out HL2.out).mono ?_
  rintro e_ w10 ⟨v0_, rfl, hr, hb⟩
  obtain ⟨Ac, cc, rfl, hcc, hCc⟩ := Kd.R_reads hr
  have HCC := Aside0.mk hcc
  have HCv10 := Aside0.mk hCc
  clear hcc hCc hr
  refine ⟨_, rfl, ?_⟩
  have HB10 := Aside0.mk (below_step HB9.out hb)
  have BK10_gp := Aside0.mk (blk_below BK9_gp.out hb)
  have BK10_gx := Aside0.mk (blk_below BK9_gx.out hb)
  have BK10_gr := Aside0.mk (blk_below BK9_gr.out hb)
  have BK10_gm := Aside0.mk (blk_below BK9_gm.out hb)
  have BK10_gs := Aside0.mk (blk_below BK9_gs.out hb)
  have HCW10_l := Aside0.mk (Kd.C_below HCW9_l.out hb)
  clear hb
  refine hK.out _ _ ⟨(blk_cell BK10_gx.out 1).trans rfl, (blk_cell BK10_gx.out 2).trans rfl, (blk_cell BK10_gx.out 7).trans rfl⟩ (fun hHeld => ?_)
  clear hK K
  refine norm_ (a' := ?_) ?_ ?_
  rotate_left
  ·show Act.put _ (some 63) _ = _
   simp only [Act.put, List.setIfInBounds_toArray, List.set_cons_zero, List.set_cons_succ, i64_w, i32_w]
   rfl
  refine one_ (i := 9) (N := some 64) #[Y,Y,Y,Y,Y,Y,Y,Y,Y,Y,Z,Z,Z,Z,Z,Y,Z,Z,Z,Z] rfl rfl (by kernel_rfl) (by decide) (fun K hK => ?_)
  refine goes_ Tryd.func38 (by kernel_rfl) rfl #[.slice Al lv.length cl, .agg #[.int .i64 a1_1, .int .i64 a1_2], .slice Ac (l1_7 ++ l2).length cc] (by rfl) rfl rfl (by (try simp only [List.map_toArray, List.map_cons, List.map_nil]); first | done | rfl) ?_
  refine (prog_Scan.calls k Al cl lv a1_1 a1_2 Ac cc (l1_7 ++ l2) s1 s2 s3 s4 s5 _ HCW10_l.out HCl.out HCv10.out HCC.out HPS.out (UT.below HT0.out HB10.out)).mono ?_
  rintro e_ w11 ⟨ve, rfl, hr, hb⟩
  have HE11_ := Aside0.mk (Kd.R_lower hr (below_size HB10.out))
  clear hr
  refine ⟨_, rfl, ?_⟩
  have HB11 := Aside0.mk (below_step HB10.out hb)
  have BK11_gp := Aside0.mk (blk_below BK10_gp.out hb)
  have BK11_gx := Aside0.mk (blk_below BK10_gx.out hb)
  have BK11_gr := Aside0.mk (blk_below BK10_gr.out hb)
  have BK11_gm := Aside0.mk (blk_below BK10_gm.out hb)
  have BK11_gs := Aside0.mk (blk_below BK10_gs.out hb)
  have HCW11_l := Aside0.mk (Kd.C_below HCW10_l.out hb)
  have HCW11_c := Aside0.mk (Kd.C_below HCv10.out hb)
  clear hb
  refine hK.out _ _ ⟨(blk_cell BK11_gx.out 1).trans rfl, (blk_cell BK11_gx.out 2).trans rfl, (blk_cell BK11_gx.out 7).trans rfl⟩ (fun hHeld => ?_)
  clear hK K
  refine norm_ (a' := ?_) ?_ ?_
  rotate_left
  ·show Act.put _ (some 64) _ = _
   simp only [Act.put, List.setIfInBounds_toArray, List.set_cons_zero, List.set_cons_succ, i64_w, i32_w]
   rfl
  refine qpk 10 (some 54) ?_
  refine qpk 11 (some 65) ?_
  refine qpk 12 (some 66) ?_
  refine qpk 13 (some 67) ?_
  refine qpk 14 (some 68) ?_
  exact norm_ (by simp only [putAll, Act.put, List.setIfInBounds_toArray, List.set_cons_zero, List.set_cons_succ]) (hCont (.slice (some ⟨gs, 0, none⟩) 2 2, .slice Ac (l1_7 ++ l2).length cc, ve, gm) _ ⟨hHeld, HE11_.out, BK11_gx.out, BK11_gr.out, BK11_gm.out, GE_gm.out, NE_gx_gm.out, NE_gr_gm.out, HB11.out⟩)
 rintro ⟨v62, v63, ve, gm⟩ w41 ⟨hS_, hE_, hX_, hR_, hM_, hG_, hN_, hO_, hB_⟩
 have HE41 := Aside0.mk hE_
 have BK41_gx := Aside0.mk hX_
 have BK41_gr := Aside0.mk hR_
 have BK41_gm := Aside0.mk hM_
 have GE_gm := Aside0.mk hG_
 have NE_gx_gm := Aside0.mk hN_
 have NE_gr_gm := Aside0.mk hO_
 have HB41 := Aside0.mk hB_
 have hHeld : w41.cell? ⟨gx, 1, none⟩ = some (.int .i64 a1_1) ∧ w41.cell? ⟨gx, 2, none⟩ = some (.int .i64 a1_2) ∧ w41.cell? ⟨gx, 7, none⟩ = some (.slice A1_7 l1_7.length c1_7) := hS_
 have NE_gm_gx : Aside0 (gm ≠ gx) := ⟨fun h_ => NE_gx_gm.out h_.symm⟩
 have NE_gm_gr : Aside0 (gm ≠ gr) := ⟨fun h_ => NE_gr_gm.out h_.symm⟩
 clear hE_ hX_ hR_ hM_ hG_ hN_ hO_ hB_ hS_
 refine norm_ (a' := ?_) ?_ ?_
 rotate_left
 ·simp only [putAll, Act.put, List.setIfInBounds_toArray, List.set_cons_zero, List.set_cons_succ]
  rfl
 refine one_ (i := 16) (N := none) #[Y,Y,Y,Y,Y,Y,Y,Y,Y,Y,Y,Y,Y,Y,Y,Y,Y,Z,Z,Z] rfl rfl (by kernel_rfl) (by decide) (fun K hK => ?_)
 refine put_step ?hg ?hn (t := 57) (x := .tmp 12) (y := .tmp 65) ?ho (off := 0) [.int .i64 s1, .int .i64 s2] BK41_gm.out ?hx ?hy ?ht ?hf rfl #[.int .i64 s1, .int .i64 s2] ?hcs ?_
 (case ho => rfl)
 (case hg => rfl)
 (case hn => rfl)
 (case hx => rfl)
 (case hy => rfl)
 (case ht => kernel_rfl)
 (case hf => exact Nat.le_of_ble_eq_true rfl)
 (case hcs => rfl)
 intro w42 hbox hp
 have HB42 := Aside0.mk (HB41.out.trans (hp.below.mono GE_gm.out))
 have BK42_gm := Aside0.mk hbox
 have BK42_gx := Aside0.mk (hp.blk BK41_gx.out NE_gx_gm.out)
 have BK42_gr := Aside0.mk (hp.blk BK41_gr.out NE_gr_gm.out)
 have HE42 := Aside0.mk (R_put HE41.out BK41_gm.out (by decide) hp)
 clear hbox hp
 refine hK.out _ _ ⟨(blk_cell BK42_gx.out 1).trans rfl, (blk_cell BK42_gx.out 2).trans rfl, (blk_cell BK42_gx.out 7).trans rfl⟩ (fun hHeld => ?_)
 clear hK K
 refine qpk 17 (some 13) ?_
 refine qpk 18 (some 14) ?_
 refine qpk 19 (some 15) ?_
 refine done_ (by kernel_rfl) ?_
 clear hHeld
 have h := HH.out
 have q2 := HQ2.out
 clear HH HQ2
 by_cases q3 : s5 = 0
 ·rw [if_pos q3] at h
  obtain ⟨t8, hK, h⟩ := Option.bind_eq_some_iff.mp h
  (try rw [if_pos q2] at h)
  have HK := Aside0.mk hK
  clear hK q2
  have q3a : (s5 == 0) = true := beq_iff_eq.mpr q3
  have q3b : (s5 != 0) = false := bne_eq_false_iff_eq.mpr q3
  clear q3
  unfold phase_Scan.lead at h
  cases s4 with
  | true =>
   rw [if_pos rfl] at h
   obtain ⟨⟨tq, td⟩, hD, h⟩ := Option.bind_eq_some_iff.mp h
   obtain ⟨⟨u1, u2, u3, u4, u5, u6, u7, u8⟩, hI, h⟩ := Option.bind_eq_some_iff.mp h
   simp only [Option.some.injEq, Prod.mk.injEq] at h
   obtain ⟨rfl, rfl, rfl, rfl, rfl, rfl, rfl, rfl, rfl, rfl⟩ := h
   have HD := Aside0.mk hD
   have HI := Aside0.mk hI
   clear hD hI
   have hc42_gx_0 : w42.cell? ⟨gx, 0, none⟩ = some (.int .i64 a1_0) := (blk_cell BK42_gx.out 0).trans rfl
   have hc42_gx_7 : w42.cell? ⟨gx, 7, none⟩ = some (.slice A1_7 l1_7.length c1_7) := (blk_cell BK42_gx.out 7).trans rfl
   go_wp2_with (first | ((with_reducible refine gate_dst (N := 79) rfl ?_); refine load_event ?hg (t := 57) (x := ?xl50) ?ho (off := 0) [.int .i64 s1, .int .i64 s2] BK42_gm.out ?hx ?hs Tryd.underlying57 rfl ?ht ?_; (case ho => rfl); (case hg => rfl); (case hx => rfl); (case hs => rfl); (case ht => kernel_rfl)) | ((with_reducible refine gate_store (t := 57) (p := 80) rfl ?_); refine put_event (t := 57) (x := ?xo51) (y := ?yo52) (off := 1) ?hg ?hn ?ho [.int .i64 s1, .int .i64 s2] BK42_gx.out ?hx ?hy ?ht ?hf rfl #[.int .i64 a1_0, .int .i64 s1, .int .i64 s2, .int .i64 a1_3, .int .i64 a1_4, .bool a1_5, .int .i64 a1_6, .slice A1_7 l1_7.length c1_7] ?hcs ?_; (case ho => rfl); (case hg => rfl); (case hn => rfl); (case hx => rfl); (case hy => rfl); (case ht => kernel_rfl); (case hf => exact Nat.le_of_ble_eq_true rfl); (case hcs => rfl); intro w43 hbox hp; have HB43 := Aside0.mk (HB42.out.trans (hp.below.mono GE_gx.out)); have BK43_gx := Aside0.mk hbox; have BK43_gr := Aside0.mk (hp.blk BK42_gr.out NE_gr_gx.out); have BK43_gm := Aside0.mk (hp.blk BK42_gm.out NE_gm_gx.out); have HR43_e := Aside0.mk (R_put HE42.out BK42_gx.out (by decide) hp); clear hbox hp; clear hc42_gx_0 hc42_gx_7; have hc43_gx_0 : w43.cell? ⟨gx, 0, none⟩ = some (.int .i64 a1_0) := (blk_cell BK43_gx.out 0).trans rfl; have hc43_gx_7 : w43.cell? ⟨gx, 7, none⟩ = some (.slice A1_7 l1_7.length c1_7) := (blk_cell BK43_gx.out 7).trans rfl) | (go_at_call 86; refine (api_Cell_86.calls A1_7 c1_7 l1_7 t8 _ (Kd.C_below HR1_7.out HB43.out) HC1_7.out HK.out).mono ?_; rintro e_ w44 ⟨v0_, rfl, hr, hb⟩; obtain ⟨Aq, cq, rfl, hcq, hCq⟩ := Kd.R_reads hr; have HL44_q := Aside0.mk (Kd.R_lower hr (below_size HB43.out)); have HC_q := Aside0.mk hcq; have HV44_q := Aside0.mk hCq; clear hCq hr hcq; have HB44 := Aside0.mk (below_step HB43.out hb); have BK44_gx := Aside0.mk (blk_below BK43_gx.out hb); have BK44_gr := Aside0.mk (blk_below BK43_gr.out hb); have BK44_gm := Aside0.mk (blk_below BK43_gm.out hb); have HR44_e := Aside0.mk (Kd.R_below HR43_e.out hb); clear hb; clear hc43_gx_0 hc43_gx_7; have hc44_gx_0 : w44.cell? ⟨gx, 0, none⟩ = some (.int .i64 a1_0) := (blk_cell BK44_gx.out 0).trans rfl; have hc44_gx_7 : w44.cell? ⟨gx, 7, none⟩ = some (.slice A1_7 l1_7.length c1_7) := (blk_cell BK44_gx.out 7).trans rfl) | ((with_reducible refine gate_store (t := 35) (p := 84) rfl ?_); refine put_event (t := 35) (x := ?xo53) (y := ?yo54) (off := 7) ?hg ?hn ?ho [.slice Aq t8.length cq] BK44_gx.out ?hx ?hy ?ht ?hf rfl #[.int .i64 a1_0, .int .i64 s1, .int .i64 s2, .int .i64 a1_3, .int .i64 a1_4, .bool a1_5, .int .i64 a1_6, .slice Aq t8.length cq] ?hcs ?_; (case ho => rfl); (case hg => rfl); (case hn => rfl); (case hx => rfl); (case hy => rfl); (case ht => kernel_rfl); (case hf => exact Nat.le_of_ble_eq_true rfl); (case hcs => rfl); intro w45 hbox hp; have HB45 := Aside0.mk (HB44.out.trans (hp.below.mono GE_gx.out)); have BK45_gx := Aside0.mk hbox; have BK45_gr := Aside0.mk (hp.blk BK44_gr.out NE_gr_gx.out); have BK45_gm := Aside0.mk (hp.blk BK44_gm.out NE_gm_gx.out); have HR45_e := Aside0.mk (R_put HR44_e.out BK44_gx.out (by decide) hp); have HR45_q := Aside0.mk (R_put HL44_q.out BK44_gx.out (by decide) hp); clear hbox hp; clear hc44_gx_0 hc44_gx_7; have hc45_gx_0 : w45.cell? ⟨gx, 0, none⟩ = some (.int .i64 a1_0) := (blk_cell BK45_gx.out 0).trans rfl; have hc45_gx_7 : w45.cell? ⟨gx, 7, none⟩ = some (.slice Aq t8.length cq) := (blk_cell BK45_gx.out 7).trans rfl) | (go_at_call 90; refine (chart_Done.calls a1_0 tq td _ HD.out).mono ?_; rintro e_ w46 ⟨rfl, hdr⟩; have hb := hdr.below; clear hdr; have HB46 := Aside0.mk (below_step HB45.out hb); have BK46_gx := Aside0.mk (blk_below BK45_gx.out hb); have BK46_gr := Aside0.mk (blk_below BK45_gr.out hb); have BK46_gm := Aside0.mk (blk_below BK45_gm.out hb); have HR46_e := Aside0.mk (Kd.R_below HR45_e.out hb); have HR46_q := Aside0.mk (Kd.R_below HR45_q.out hb); clear hb; clear hc45_gx_0 hc45_gx_7; have hc46_gx_0 : w46.cell? ⟨gx, 0, none⟩ = some (.int .i64 a1_0) := (blk_cell BK46_gx.out 0).trans rfl; have hc46_gx_7 : w46.cell? ⟨gx, 7, none⟩ = some (.slice Aq t8.length cq) := (blk_cell BK46_gx.out 7).trans rfl) | ((with_reducible refine gate_dst (N := 92) rfl ?_); refine load_event ?hg (t := 82) (x := ?xl55) ?ho (off := 0) [.int .i64 a1_0, .int .i64 s1, .int .i64 s2, .int .i64 a1_3, .int .i64 a1_4, .bool a1_5, .int .i64 a1_6, .slice Aq t8.length cq] BK46_gx.out ?hx ?hs Tryd.underlying82 rfl ?ht ?_; (case ho => rfl); (case hg => rfl); (case hx => rfl); (case hs => rfl); (case ht => kernel_rfl)) | (go_at_call 85; refine (phase_in.calls a1_0 s1 s2 a1_3 a1_4 a1_5 a1_6 Aq cq t8 tq u1 u2 u3 u4 u5 u6 u7 u8 _ (Kd.R_reads' HR46_q.out).2.2 HC_q.out HI.out).mono ?_; rintro e_ w47 ⟨v7_, rfl, hr, hb⟩; obtain ⟨Au, cu, rfl, hcu, hCu⟩ := Kd.R_reads hr; have HL47_u := Aside0.mk (Kd.R_lower hr (below_size HB46.out)); have HC_u := Aside0.mk hcu; have HV47_u := Aside0.mk hCu; clear hCu hr hcu; have HB47 := Aside0.mk (below_step HB46.out hb); have BK47_gx := Aside0.mk (blk_below BK46_gx.out hb); have BK47_gr := Aside0.mk (blk_below BK46_gr.out hb); have BK47_gm := Aside0.mk (blk_below BK46_gm.out hb); have HR47_e := Aside0.mk (Kd.R_below HR46_e.out hb); have HR47_q := Aside0.mk (Kd.R_below HR46_q.out hb); clear hb; clear hc46_gx_0 hc46_gx_7; have hc47_gx_0 : w47.cell? ⟨gx, 0, none⟩ = some (.int .i64 a1_0) := (blk_cell BK47_gx.out 0).trans rfl; have hc47_gx_7 : w47.cell? ⟨gx, 7, none⟩ = some (.slice Aq t8.length cq) := (blk_cell BK47_gx.out 7).trans rfl) | ((with_reducible refine gate_store (t := 82) (p := 4) rfl ?_); refine put_event (t := 82) (x := ?xo56) (y := ?yo57) (off := 0) ?hg ?hn ?ho [.int .i64 u1, .int .i64 u2, .int .i64 u3, .int .i64 u4, .int .i64 u5, .bool u6, .int .i64 u7, .slice Au u8.length cu] BK47_gx.out ?hx ?hy ?ht ?hf rfl #[.int .i64 u1, .int .i64 u2, .int .i64 u3, .int .i64 u4, .int .i64 u5, .bool u6, .int .i64 u7, .slice Au u8.length cu] ?hcs ?_; (case ho => rfl); (case hg => rfl); (case hn => rfl); (case hx => rfl); (case hy => rfl); (case ht => kernel_rfl); (case hf => exact Nat.le_of_ble_eq_true rfl); (case hcs => rfl); intro w48 hbox hp; have HB48 := Aside0.mk (HB47.out.trans (hp.below.mono GE_gx.out)); have BK48_gx := Aside0.mk hbox; have BK48_gr := Aside0.mk (hp.blk BK47_gr.out NE_gr_gx.out); have BK48_gm := Aside0.mk (hp.blk BK47_gm.out NE_gm_gx.out); have HR48_e := Aside0.mk (R_put HR47_e.out BK47_gx.out (by decide) hp); have HR48_q := Aside0.mk (R_put HR47_q.out BK47_gx.out (by decide) hp); have HR48_u := Aside0.mk (R_put HL47_u.out BK47_gx.out (by decide) hp); clear hbox hp; clear hc47_gx_0 hc47_gx_7; have hc48_gx_0 : w48.cell? ⟨gx, 0, none⟩ = some (.int .i64 u1) := (blk_cell BK48_gx.out 0).trans rfl; have hc48_gx_7 : w48.cell? ⟨gx, 7, none⟩ = some (.slice Au u8.length cu) := (blk_cell BK48_gx.out 7).trans rfl) | ((with_reducible refine gate_dst (N := 95) rfl ?_); refine load_event ?hg (t := 82) (x := ?xl58) ?ho (off := 0) [.int .i64 u1, .int .i64 u2, .int .i64 u3, .int .i64 u4, .int .i64 u5, .bool u6, .int .i64 u7, .slice Au u8.length cu] BK48_gx.out ?hx ?hs Tryd.underlying82 rfl ?ht ?_; (case ho => rfl); (case hg => rfl); (case hx => rfl); (case hs => rfl); (case ht => kernel_rfl)) | ((with_reducible refine gate_store (t := 82) (p := 6) rfl ?_); refine put_event (t := 82) (x := ?xo59) (y := ?yo60) (off := 0) ?hg ?hn ?ho [.int .i64 u1, .int .i64 u2, .int .i64 u3, .int .i64 u4, .int .i64 u5, .bool u6, .int .i64 u7, .slice Au u8.length cu] BK48_gr.out ?hx ?hy ?ht ?hf rfl #[.int .i64 u1, .int .i64 u2, .int .i64 u3, .int .i64 u4, .int .i64 u5, .bool u6, .int .i64 u7, .slice Au u8.length cu] ?hcs ?_; (case ho => rfl); (case hg => rfl); (case hn => rfl); (case hx => rfl); (case hy => rfl); (case ht => kernel_rfl); (case hf => exact Nat.le_of_ble_eq_true rfl); (case hcs => rfl); intro w49 hbox hp; have HB49 := Aside0.mk (HB48.out.trans (hp.below.mono GE_gr.out)); have BK49_gx := Aside0.mk (hp.blk BK48_gx.out NE_gx_gr.out); have BK49_gr := Aside0.mk hbox; have BK49_gm := Aside0.mk (hp.blk BK48_gm.out NE_gm_gr.out); have HR49_e := Aside0.mk (R_put HR48_e.out BK48_gr.out (by decide) hp); have HR49_q := Aside0.mk (R_put HR48_q.out BK48_gr.out (by decide) hp); have HR49_u := Aside0.mk (R_put HR48_u.out BK48_gr.out (by decide) hp); clear hbox hp; clear hc48_gx_0 hc48_gx_7; have hc49_gx_0 : w49.cell? ⟨gx, 0, none⟩ = some (.int .i64 u1) := (blk_cell BK49_gx.out 0).trans rfl; have hc49_gx_7 : w49.cell? ⟨gx, 7, none⟩ = some (.slice Au u8.length cu) := (blk_cell BK49_gx.out 7).trans rfl))
   refine bodyPost_ret (results_ctt rfl _ _ gr 82 #[.int .i64 u1, .int .i64 u2, .int .i64 u3, .int .i64 u4, .int .i64 u5, .bool u6, .int .i64 u7, .slice Au u8.length cu] (0, 0) _ rfl BK49_gr.out Tryd.underlying82 rfl (by kernel_rfl)) rfl ?_
   exact ⟨_, _, rfl, HR49_u.out, HR49_e.out, HB49.out⟩
  | false =>
   rw [if_neg (by decide)] at h
   simp only [Option.some.injEq, Prod.mk.injEq] at h
   obtain ⟨rfl, rfl, rfl, rfl, rfl, rfl, rfl, rfl, rfl, rfl⟩ := h
   have hc42_gx_0 : w42.cell? ⟨gx, 0, none⟩ = some (.int .i64 a1_0) := (blk_cell BK42_gx.out 0).trans rfl
   have hc42_gx_7 : w42.cell? ⟨gx, 7, none⟩ = some (.slice A1_7 l1_7.length c1_7) := (blk_cell BK42_gx.out 7).trans rfl
   go_wp2_with (first | ((with_reducible refine gate_dst (N := 79) rfl ?_); refine load_event ?hg (t := 57) (x := ?xl61) ?ho (off := 0) [.int .i64 s1, .int .i64 s2] BK42_gm.out ?hx ?hs Tryd.underlying57 rfl ?ht ?_; (case ho => rfl); (case hg => rfl); (case hx => rfl); (case hs => rfl); (case ht => kernel_rfl)) | ((with_reducible refine gate_store (t := 57) (p := 80) rfl ?_); refine put_event (t := 57) (x := ?xo62) (y := ?yo63) (off := 1) ?hg ?hn ?ho [.int .i64 s1, .int .i64 s2] BK42_gx.out ?hx ?hy ?ht ?hf rfl #[.int .i64 a1_0, .int .i64 s1, .int .i64 s2, .int .i64 a1_3, .int .i64 a1_4, .bool a1_5, .int .i64 a1_6, .slice A1_7 l1_7.length c1_7] ?hcs ?_; (case ho => rfl); (case hg => rfl); (case hn => rfl); (case hx => rfl); (case hy => rfl); (case ht => kernel_rfl); (case hf => exact Nat.le_of_ble_eq_true rfl); (case hcs => rfl); intro w43 hbox hp; have HB43 := Aside0.mk (HB42.out.trans (hp.below.mono GE_gx.out)); have BK43_gx := Aside0.mk hbox; have BK43_gr := Aside0.mk (hp.blk BK42_gr.out NE_gr_gx.out); have BK43_gm := Aside0.mk (hp.blk BK42_gm.out NE_gm_gx.out); have HR43_e := Aside0.mk (R_put HE42.out BK42_gx.out (by decide) hp); clear hbox hp; clear hc42_gx_0 hc42_gx_7; have hc43_gx_0 : w43.cell? ⟨gx, 0, none⟩ = some (.int .i64 a1_0) := (blk_cell BK43_gx.out 0).trans rfl; have hc43_gx_7 : w43.cell? ⟨gx, 7, none⟩ = some (.slice A1_7 l1_7.length c1_7) := (blk_cell BK43_gx.out 7).trans rfl) | (go_at_call 86; refine (api_Cell_86.calls A1_7 c1_7 l1_7 t8 _ (Kd.C_below HR1_7.out HB43.out) HC1_7.out HK.out).mono ?_; rintro e_ w44 ⟨v0_, rfl, hr, hb⟩; obtain ⟨Aq, cq, rfl, hcq, hCq⟩ := Kd.R_reads hr; have HL44_q := Aside0.mk (Kd.R_lower hr (below_size HB43.out)); have HC_q := Aside0.mk hcq; have HV44_q := Aside0.mk hCq; clear hCq hr hcq; have HB44 := Aside0.mk (below_step HB43.out hb); have BK44_gx := Aside0.mk (blk_below BK43_gx.out hb); have BK44_gr := Aside0.mk (blk_below BK43_gr.out hb); have BK44_gm := Aside0.mk (blk_below BK43_gm.out hb); have HR44_e := Aside0.mk (Kd.R_below HR43_e.out hb); clear hb; clear hc43_gx_0 hc43_gx_7; have hc44_gx_0 : w44.cell? ⟨gx, 0, none⟩ = some (.int .i64 a1_0) := (blk_cell BK44_gx.out 0).trans rfl; have hc44_gx_7 : w44.cell? ⟨gx, 7, none⟩ = some (.slice A1_7 l1_7.length c1_7) := (blk_cell BK44_gx.out 7).trans rfl) | ((with_reducible refine gate_store (t := 35) (p := 84) rfl ?_); refine put_event (t := 35) (x := ?xo64) (y := ?yo65) (off := 7) ?hg ?hn ?ho [.slice Aq t8.length cq] BK44_gx.out ?hx ?hy ?ht ?hf rfl #[.int .i64 a1_0, .int .i64 s1, .int .i64 s2, .int .i64 a1_3, .int .i64 a1_4, .bool a1_5, .int .i64 a1_6, .slice Aq t8.length cq] ?hcs ?_; (case ho => rfl); (case hg => rfl); (case hn => rfl); (case hx => rfl); (case hy => rfl); (case ht => kernel_rfl); (case hf => exact Nat.le_of_ble_eq_true rfl); (case hcs => rfl); intro w45 hbox hp; have HB45 := Aside0.mk (HB44.out.trans (hp.below.mono GE_gx.out)); have BK45_gx := Aside0.mk hbox; have BK45_gr := Aside0.mk (hp.blk BK44_gr.out NE_gr_gx.out); have BK45_gm := Aside0.mk (hp.blk BK44_gm.out NE_gm_gx.out); have HR45_e := Aside0.mk (R_put HR44_e.out BK44_gx.out (by decide) hp); have HR45_q := Aside0.mk (R_put HL44_q.out BK44_gx.out (by decide) hp); clear hbox hp; clear hc44_gx_0 hc44_gx_7; have hc45_gx_0 : w45.cell? ⟨gx, 0, none⟩ = some (.int .i64 a1_0) := (blk_cell BK45_gx.out 0).trans rfl; have hc45_gx_7 : w45.cell? ⟨gx, 7, none⟩ = some (.slice Aq t8.length cq) := (blk_cell BK45_gx.out 7).trans rfl) | ((with_reducible refine gate_dst (N := 95) rfl ?_); refine load_event ?hg (t := 82) (x := ?xl66) ?ho (off := 0) [.int .i64 a1_0, .int .i64 s1, .int .i64 s2, .int .i64 a1_3, .int .i64 a1_4, .bool a1_5, .int .i64 a1_6, .slice Aq t8.length cq] BK45_gx.out ?hx ?hs Tryd.underlying82 rfl ?ht ?_; (case ho => rfl); (case hg => rfl); (case hx => rfl); (case hs => rfl); (case ht => kernel_rfl)) | ((with_reducible refine gate_store (t := 82) (p := 6) rfl ?_); refine put_event (t := 82) (x := ?xo67) (y := ?yo68) (off := 0) ?hg ?hn ?ho [.int .i64 a1_0, .int .i64 s1, .int .i64 s2, .int .i64 a1_3, .int .i64 a1_4, .bool a1_5, .int .i64 a1_6, .slice Aq t8.length cq] BK45_gr.out ?hx ?hy ?ht ?hf rfl #[.int .i64 a1_0, .int .i64 s1, .int .i64 s2, .int .i64 a1_3, .int .i64 a1_4, .bool a1_5, .int .i64 a1_6, .slice Aq t8.length cq] ?hcs ?_; (case ho => rfl); (case hg => rfl); (case hn => rfl); (case hx => rfl); (case hy => rfl); (case ht => kernel_rfl); (case hf => exact Nat.le_of_ble_eq_true rfl); (case hcs => rfl); intro w46 hbox hp; have HB46 := Aside0.mk (HB45.out.trans (hp.below.mono GE_gr.out)); have BK46_gx := Aside0.mk (hp.blk BK45_gx.out NE_gx_gr.out); have BK46_gr := Aside0.mk hbox; have BK46_gm := Aside0.mk (hp.blk BK45_gm.out NE_gm_gr.out); have HR46_e := Aside0.mk (R_put HR45_e.out BK45_gr.out (by decide) hp); have HR46_q := Aside0.mk (R_put HR45_q.out BK45_gr.out (by decide) hp); clear hbox hp; clear hc45_gx_0 hc45_gx_7; have hc46_gx_0 : w46.cell? ⟨gx, 0, none⟩ = some (.int .i64 a1_0) := (blk_cell BK46_gx.out 0).trans rfl; have hc46_gx_7 : w46.cell? ⟨gx, 7, none⟩ = some (.slice Aq t8.length cq) := (blk_cell BK46_gx.out 7).trans rfl))
   refine bodyPost_ret (results_ctt rfl _ _ gr 82 #[.int .i64 a1_0, .int .i64 s1, .int .i64 s2, .int .i64 a1_3, .int .i64 a1_4, .bool a1_5, .int .i64 a1_6, .slice Aq t8.length cq] (0, 0) _ rfl BK46_gr.out Tryd.underlying82 rfl (by kernel_rfl)) rfl ?_
   exact ⟨_, _, rfl, HR46_q.out, HR46_e.out, HB46.out⟩
 rw [if_neg q3] at h
 obtain ⟨⟨t1, t2, t3, t4, t5, t6, t7, t8, t9⟩, hX, h⟩ := Option.bind_eq_some_iff.mp h
 simp only [Option.some.injEq, Prod.mk.injEq] at h
 obtain ⟨rfl, rfl, rfl, rfl, rfl, rfl, rfl, rfl, rfl, rfl⟩ := h
 have HX := Aside0.mk hX
 clear hX q2
 have q3a : (s5 == 0) = false := beq_eq_false_iff_ne.mpr q3
 have q3b : (s5 != 0) = true := bne_iff_ne.mpr q3
 clear q3
 go_wp2_with (first | ((with_reducible refine gate_dst (N := 72) rfl ?_); refine load_event ?hg (t := 82) (x := ?xl69) ?ho (off := 0) [.int .i64 a1_0, .int .i64 a1_1, .int .i64 a1_2, .int .i64 a1_3, .int .i64 a1_4, .bool a1_5, .int .i64 a1_6, .slice A1_7 l1_7.length c1_7] BK42_gx.out ?hx ?hs Tryd.underlying82 rfl ?ht ?_; (case ho => rfl); (case hg => rfl); (case hx => rfl); (case hs => rfl); (case ht => kernel_rfl)) | (go_at_call 89; refine (phase_Fail.calls a1_0 a1_1 a1_2 a1_3 a1_4 a1_5 a1_6 A1_7 c1_7 l1_7 s5 t1 t2 t3 t4 t5 t6 t7 t8 t9 _ (Kd.C_below HR1_7.out HB42.out) HC1_7.out HX.out).mono ?_; rintro e_ w43 ⟨v7_, rfl, hr, hb⟩; obtain ⟨Aq, cq, rfl, hcq, hCq⟩ := Kd.R_reads hr; have HL43_q := Aside0.mk (Kd.R_lower hr (below_size HB42.out)); have HC_q := Aside0.mk hcq; have HV43_q := Aside0.mk hCq; clear hCq hr hcq; have HB43 := Aside0.mk (below_step HB42.out hb); have BK43_gx := Aside0.mk (blk_below BK42_gx.out hb); have BK43_gr := Aside0.mk (blk_below BK42_gr.out hb); have BK43_gm := Aside0.mk (blk_below BK42_gm.out hb); have HR43_e := Aside0.mk (Kd.R_below HE42.out hb); clear hb) | ((with_reducible refine gate_dst (N := 16) rfl ?_); refine box_event ?hg (N := 16) ?hd (cs := #[.int .i64 0, .int .i64 0, .int .i64 0, .int .i64 0, .int .i64 0, .bool false, .int .i64 0, .slice none 0 0]) (t := 82) ?hr ?_; (case hd => rfl); (case hg => rfl); (case hr => first | (go_simp; done) | (go_simp; rfl)); intro gf hg w44 hbox hb; have GE_gf : Aside0 (w.heap.size ≤ gf) := ⟨by rw [hg]; exact below_size HB43.out⟩; have NE_gx_gf : Aside0 (gx ≠ gf) := ⟨by have h_ := blk_lt BK43_gx.out; omega⟩; have NE_gf_gx : Aside0 (gf ≠ gx) := ⟨fun h_ => NE_gx_gf.out h_.symm⟩; have NE_gr_gf : Aside0 (gr ≠ gf) := ⟨by have h_ := blk_lt BK43_gr.out; omega⟩; have NE_gf_gr : Aside0 (gf ≠ gr) := ⟨fun h_ => NE_gr_gf.out h_.symm⟩; have NE_gm_gf : Aside0 (gm ≠ gf) := ⟨by have h_ := blk_lt BK43_gm.out; omega⟩; have NE_gf_gm : Aside0 (gf ≠ gm) := ⟨fun h_ => NE_gm_gf.out h_.symm⟩; have HB44 := Aside0.mk (below_step HB43.out hb); have BK44_gx := Aside0.mk (blk_below BK43_gx.out hb); have BK44_gr := Aside0.mk (blk_below BK43_gr.out hb); have BK44_gm := Aside0.mk (blk_below BK43_gm.out hb); have HR44_e := Aside0.mk (Kd.R_below HR43_e.out hb); have HR44_q := Aside0.mk (Kd.R_below HL43_q.out hb); have BK44_gf := Aside0.mk hbox; clear hbox hb hg) | ((with_reducible refine gate_store (t := 82) (p := 16) rfl ?_); refine put_event (t := 82) (x := ?xo70) (y := ?yo71) (off := 0) ?hg ?hn ?ho [.int .i64 t1, .int .i64 t2, .int .i64 t3, .int .i64 t4, .int .i64 t5, .bool t6, .int .i64 t7, .slice Aq t8.length cq] BK44_gf.out ?hx ?hy ?ht ?hf rfl #[.int .i64 t1, .int .i64 t2, .int .i64 t3, .int .i64 t4, .int .i64 t5, .bool t6, .int .i64 t7, .slice Aq t8.length cq] ?hcs ?_; (case ho => rfl); (case hg => rfl); (case hn => rfl); (case hx => rfl); (case hy => rfl); (case ht => kernel_rfl); (case hf => exact Nat.le_of_ble_eq_true rfl); (case hcs => rfl); intro w45 hbox hp; have HB45 := Aside0.mk (HB44.out.trans (hp.below.mono GE_gf.out)); have BK45_gx := Aside0.mk (hp.blk BK44_gx.out NE_gx_gf.out); have BK45_gr := Aside0.mk (hp.blk BK44_gr.out NE_gr_gf.out); have BK45_gm := Aside0.mk (hp.blk BK44_gm.out NE_gm_gf.out); have BK45_gf := Aside0.mk hbox; have HR45_e := Aside0.mk (R_put HR44_e.out BK44_gf.out (by decide) hp); have HR45_q := Aside0.mk (R_put HR44_q.out BK44_gf.out (by decide) hp); clear hbox hp) | ((with_reducible refine gate_dst (N := 77) rfl ?_); refine load_event ?hg (t := 82) (x := ?xl72) ?ho (off := 0) [.int .i64 t1, .int .i64 t2, .int .i64 t3, .int .i64 t4, .int .i64 t5, .bool t6, .int .i64 t7, .slice Aq t8.length cq] BK45_gf.out ?hx ?hs Tryd.underlying82 rfl ?ht ?_; (case ho => rfl); (case hg => rfl); (case hx => rfl); (case hs => rfl); (case ht => kernel_rfl)) | ((with_reducible refine gate_store (t := 82) (p := 6) rfl ?_); refine put_event (t := 82) (x := ?xo73) (y := ?yo74) (off := 0) ?hg ?hn ?ho [.int .i64 t1, .int .i64 t2, .int .i64 t3, .int .i64 t4, .int .i64 t5, .bool t6, .int .i64 t7, .slice Aq t8.length cq] BK45_gr.out ?hx ?hy ?ht ?hf rfl #[.int .i64 t1, .int .i64 t2, .int .i64 t3, .int .i64 t4, .int .i64 t5, .bool t6, .int .i64 t7, .slice Aq t8.length cq] ?hcs ?_; (case ho => rfl); (case hg => rfl); (case hn => rfl); (case hx => rfl); (case hy => rfl); (case ht => kernel_rfl); (case hf => exact Nat.le_of_ble_eq_true rfl); (case hcs => rfl); intro w46 hbox hp; have HB46 := Aside0.mk (HB45.out.trans (hp.below.mono GE_gr.out)); have BK46_gx := Aside0.mk (hp.blk BK45_gx.out NE_gx_gr.out); have BK46_gr := Aside0.mk hbox; have BK46_gm := Aside0.mk (hp.blk BK45_gm.out NE_gm_gr.out); have BK46_gf := Aside0.mk (hp.blk BK45_gf.out NE_gf_gr.out); have HR46_e := Aside0.mk (R_put HR45_e.out BK45_gr.out (by decide) hp); have HR46_q := Aside0.mk (R_put HR45_q.out BK45_gr.out (by decide) hp); clear hbox hp))
 refine bodyPost_ret (results_ctt rfl _ _ gr 82 #[.int .i64 t1, .int .i64 t2, .int .i64 t3, .int .i64 t4, .int .i64 t5, .bool t6, .int .i64 t7, .slice Aq t8.length cq] (0, 0) _ rfl BK46_gr.out Tryd.underlying82 rfl (by kernel_rfl)) rfl ?_
 exact ⟨_, _, rfl, HR46_q.out, Kd.R_nil _ _ _ _ _, HB46.out⟩
set_option maxHeartbeats 8000000 in
set_option maxRecDepth 100000 in
theorem Scan_oth (k : Nat) (A0_0 : Option Addr) (c0_0 : Nat) (l0_0 : List (S67)) (A0_1 : Option Addr) (c0_1 : Nat) (l0_1 : List (S67)) (A0_2 : Option Addr) (c0_2 : Nat) (l0_2 : List (S67)) (A0_3 : Option Addr) (c0_3 : Nat) (l0_3 : List (S67)) (A0_4 : Option Addr) (c0_4 : Nat) (l0_4 : List (S67)) (a1_0 : Int) (a1_1 : Int) (a1_2 : Int) (a1_3 : Int) (a1_4 : Int) (a1_5 : Bool) (a1_6 : Int) (A1_7 : Option Addr) (c1_7 : Nat) (l1_7 : List (S69)) (A2 : Option Addr) (c2 : Nat) (l2 : List (S69)) (lv : List (S67)) (okv : Bool) (r1 : Int) (r2 : Int) (r3 : Int) (r4 : Int) (r5 : Int) (r6 : Bool) (r7 : Int) (r8 : List (S69)) (r9 : List (S72)) (r10 : Int) (w : World) (hr0_0 : Kd.C k67 w A0_0 l0_0.length l0_0) (hc0_0 : l0_0.length ≤ c0_0) (hr0_1 : Kd.C k67 w A0_1 l0_1.length l0_1) (hc0_1 : l0_1.length ≤ c0_1) (hr0_2 : Kd.C k67 w A0_2 l0_2.length l0_2) (hc0_2 : l0_2.length ≤ c0_2) (hr0_3 : Kd.C k67 w A0_3 l0_3.length l0_3) (hc0_3 : l0_3.length ≤ c0_3) (hr0_4 : Kd.C k67 w A0_4 l0_4.length l0_4) (hc0_4 : l0_4.length ≤ c0_4) (hr1_7 : Kd.C k69 w A1_7 l1_7.length l1_7) (hc1_7 : l1_7.length ≤ c1_7) (hr2 : Kd.C k69 w A2 l2.length l2) (hc2 : l2.length ≤ c2) (hR : phase_Right.f k l0_0 l0_1 l0_2 l0_3 l0_4 a1_0 a1_1 a1_2 a1_3 a1_4 a1_5 a1_6 l1_7 = some true) (q1 : a1_0 ≠ 2) (hA : chart_Acting.f a1_0 = some true) (hF : phase_find.f l0_0 l0_1 l0_2 l0_3 l0_4 a1_0 = some (lv, okv)) (h : phase_Scan.act k lv a1_0 a1_1 a1_2 a1_3 a1_4 a1_5 a1_6 l1_7 l2 a1_3 a1_4 = some (r1, r2, r3, r4, r5, r6, r7, r8, r9, r10)) (q2 : a1_0 ≠ 1) (hT : UT w) :
  Calls Tryd.prog 56 #[.agg #[.slice A0_0 l0_0.length c0_0, .slice A0_1 l0_1.length c0_1, .slice A0_2 l0_2.length c0_2, .slice A0_3 l0_3.length c0_3, .slice A0_4 l0_4.length c0_4], .agg #[.int .i64 a1_0, .int .i64 a1_1, .int .i64 a1_2, .int .i64 a1_3, .int .i64 a1_4, .bool a1_5, .int .i64 a1_6, .slice A1_7 l1_7.length c1_7], .slice A2 l2.length c2] w fun e w' => ∃ v7_ v8_ : Value, e = .returned (.tuple #[.agg #[.int .i64 r1, .int .i64 r2, .int .i64 r3, .int .i64 r4, .int .i64 r5, .bool r6, .int .i64 r7, v7_], v8_, .int .i64 r10]) ∧ Kd.R k69 69 w' w.heap.size (fun _ => True) v7_ r8 ∧ Kd.R k72 72 w' w.heap.size (fun _ => True) v8_ r9 ∧ Below w.heap.size w w' := by
 have hu82 := Tryd.underlying82
 have hu57 := Tryd.underlying57
 have hu80 := Tryd.underlying80
 have HB0 := Aside0.mk (Below.refl w.heap.size w)
 have HT0 := Aside0.mk hT
 have HR0_0 := Aside0.mk hr0_0
 have HR0_1 := Aside0.mk hr0_1
 have HR0_2 := Aside0.mk hr0_2
 have HR0_3 := Aside0.mk hr0_3
 have HR0_4 := Aside0.mk hr0_4
 have HC0_0 := Aside0.mk hc0_0
 have HC0_1 := Aside0.mk hc0_1
 have HC0_2 := Aside0.mk hc0_2
 have HC0_3 := Aside0.mk hc0_3
 have HC0_4 := Aside0.mk hc0_4
 have HR1_7 := Aside0.mk hr1_7
 have HC1_7 := Aside0.mk hc1_7
 have HR2 := Aside0.mk hr2
 have HC2 := Aside0.mk hc2
 clear hT hr0_0 hc0_0 hr0_1 hc0_1 hr0_2 hc0_2 hr0_3 hc0_3 hr0_4 hc0_4 hr1_7 hc1_7 hr2 hc2
 have HRT := Aside0.mk hR
 have HA := Aside0.mk hA
 have HF := Aside0.mk hF
 have HQ2 := Aside0.mk q2
 unfold phase_Scan.act at h
 split at h
 case isFalse => cases h
 rename_i hl
 obtain ⟨⟨s1, s2, s3, s4, s5⟩, hS, h⟩ := Option.bind_eq_some_iff.mp h
 simp only [] at h
 have HL7 := Aside0.mk hl.1
 have HL2 := Aside0.mk hl.2
 have HPS := Aside0.mk hS
 have HH := Aside0.mk h
 clear hR hA hF hl hS h
 have q1a : (a1_0 == 2) = false := beq_eq_false_iff_ne.mpr q1
 have q1b : (a1_0 != 2) = true := bne_iff_ne.mpr q1
 clear q1
 have q2a : (a1_0 == 1) = false := beq_eq_false_iff_ne.mpr q2
 have q2b : (a1_0 != 1) = true := bne_iff_ne.mpr q2
 clear q2
 go_enter Tryd.func56, Tryd.ntmps56
 go_upto_region 12 with (first | ((with_reducible refine gate_dst (N := 3) rfl ?_); refine box_event ?hg (N := 3) ?hd (cs := #[.slice A0_0 l0_0.length c0_0, .slice A0_1 l0_1.length c0_1, .slice A0_2 l0_2.length c0_2, .slice A0_3 l0_3.length c0_3, .slice A0_4 l0_4.length c0_4]) (t := 80) ?hr ?_; (case hd => rfl); (case hg => rfl); (case hr => first | (go_simp; done) | (go_simp; rfl)); intro gp hg w1 hbox hb; have GE_gp : Aside0 (w.heap.size ≤ gp) := ⟨by rw [hg]; exact below_size HB0.out⟩; have HB1 := Aside0.mk (below_step HB0.out hb); have BK1_gp := Aside0.mk hbox; clear hbox hb hg) | ((with_reducible refine gate_dst (N := 4) rfl ?_); refine box_event ?hg (N := 4) ?hd (cs := #[.int .i64 a1_0, .int .i64 a1_1, .int .i64 a1_2, .int .i64 a1_3, .int .i64 a1_4, .bool a1_5, .int .i64 a1_6, .slice A1_7 l1_7.length c1_7]) (t := 82) ?hr ?_; (case hd => rfl); (case hg => rfl); (case hr => first | (go_simp; done) | (go_simp; rfl)); intro gx hg w2 hbox hb; have GE_gx : Aside0 (w.heap.size ≤ gx) := ⟨by rw [hg]; exact below_size HB1.out⟩; have NE_gp_gx : Aside0 (gp ≠ gx) := ⟨by have h_ := blk_lt BK1_gp.out; omega⟩; have NE_gx_gp : Aside0 (gx ≠ gp) := ⟨fun h_ => NE_gp_gx.out h_.symm⟩; have HB2 := Aside0.mk (below_step HB1.out hb); have BK2_gp := Aside0.mk (blk_below BK1_gp.out hb); have BK2_gx := Aside0.mk hbox; clear hbox hb hg; have hc2_gx_0 : w2.cell? ⟨gx, 0, none⟩ = some (.int .i64 a1_0) := (blk_cell BK2_gx.out 0).trans rfl; have hc2_gx_7 : w2.cell? ⟨gx, 7, none⟩ = some (.slice A1_7 l1_7.length c1_7) := (blk_cell BK2_gx.out 7).trans rfl) | ((with_reducible refine gate_dst (N := 6) rfl ?_); refine box_event ?hg (N := 6) ?hd (cs := #[.int .i64 0, .int .i64 0, .int .i64 0, .int .i64 0, .int .i64 0, .bool false, .int .i64 0, .slice none 0 0]) (t := 82) ?hr ?_; (case hd => rfl); (case hg => rfl); (case hr => first | (go_simp; done) | (go_simp; rfl)); intro gr hg w3 hbox hb; have GE_gr : Aside0 (w.heap.size ≤ gr) := ⟨by rw [hg]; exact below_size HB2.out⟩; have NE_gp_gr : Aside0 (gp ≠ gr) := ⟨by have h_ := blk_lt BK2_gp.out; omega⟩; have NE_gr_gp : Aside0 (gr ≠ gp) := ⟨fun h_ => NE_gp_gr.out h_.symm⟩; have NE_gx_gr : Aside0 (gx ≠ gr) := ⟨by have h_ := blk_lt BK2_gx.out; omega⟩; have NE_gr_gx : Aside0 (gr ≠ gx) := ⟨fun h_ => NE_gx_gr.out h_.symm⟩; have HB3 := Aside0.mk (below_step HB2.out hb); have BK3_gp := Aside0.mk (blk_below BK2_gp.out hb); have BK3_gx := Aside0.mk (blk_below BK2_gx.out hb); have BK3_gr := Aside0.mk hbox; clear hbox hb hg; clear hc2_gx_0 hc2_gx_7; have hc3_gx_0 : w3.cell? ⟨gx, 0, none⟩ = some (.int .i64 a1_0) := (blk_cell BK3_gx.out 0).trans rfl; have hc3_gx_7 : w3.cell? ⟨gx, 7, none⟩ = some (.slice A1_7 l1_7.length c1_7) := (blk_cell BK3_gx.out 7).trans rfl) | ((with_reducible refine gate_dst (N := 21) rfl ?_); refine load_event ?hg (t := 80) (x := ?xl75) ?ho (off := 0) [.slice A0_0 l0_0.length c0_0, .slice A0_1 l0_1.length c0_1, .slice A0_2 l0_2.length c0_2, .slice A0_3 l0_3.length c0_3, .slice A0_4 l0_4.length c0_4] BK3_gp.out ?hx ?hs Tryd.underlying80 rfl ?ht ?_; (case ho => rfl); (case hg => rfl); (case hx => rfl); (case hs => rfl); (case ht => kernel_rfl)) | ((with_reducible refine gate_dst (N := 22) rfl ?_); refine load_event ?hg (t := 82) (x := ?xl76) ?ho (off := 0) [.int .i64 a1_0, .int .i64 a1_1, .int .i64 a1_2, .int .i64 a1_3, .int .i64 a1_4, .bool a1_5, .int .i64 a1_6, .slice A1_7 l1_7.length c1_7] BK3_gx.out ?hx ?hs Tryd.underlying82 rfl ?ht ?_; (case ho => rfl); (case hg => rfl); (case hx => rfl); (case hs => rfl); (case ht => kernel_rfl)) | (go_at_call 51; refine (phase_Right.calls k A0_0 c0_0 l0_0 A0_1 c0_1 l0_1 A0_2 c0_2 l0_2 A0_3 c0_3 l0_3 A0_4 c0_4 l0_4 a1_0 a1_1 a1_2 a1_3 a1_4 a1_5 a1_6 A1_7 c1_7 l1_7 true _ (Kd.C_below HR0_0.out HB3.out) HC0_0.out (Kd.C_below HR0_1.out HB3.out) HC0_1.out (Kd.C_below HR0_2.out HB3.out) HC0_2.out (Kd.C_below HR0_3.out HB3.out) HC0_3.out (Kd.C_below HR0_4.out HB3.out) HC0_4.out (Kd.C_below HR1_7.out HB3.out) HC1_7.out HRT.out (UT.below HT0.out HB3.out)).mono ?_; rintro e_ w4 ⟨rfl, hb⟩; have HB4 := Aside0.mk (below_step HB3.out hb); have BK4_gp := Aside0.mk (blk_below BK3_gp.out hb); have BK4_gx := Aside0.mk (blk_below BK3_gx.out hb); have BK4_gr := Aside0.mk (blk_below BK3_gr.out hb); clear hb; clear hc3_gx_0 hc3_gx_7; have hc4_gx_0 : w4.cell? ⟨gx, 0, none⟩ = some (.int .i64 a1_0) := (blk_cell BK4_gx.out 0).trans rfl; have hc4_gx_7 : w4.cell? ⟨gx, 7, none⟩ = some (.slice A1_7 l1_7.length c1_7) := (blk_cell BK4_gx.out 7).trans rfl) | (go_at_call 87; refine (chart_Acting.calls a1_0 true _ HA.out).mono ?_; rintro e_ w5 ⟨rfl, hdr⟩; have hb := hdr.below; clear hdr; have HB5 := Aside0.mk (below_step HB4.out hb); have BK5_gp := Aside0.mk (blk_below BK4_gp.out hb); have BK5_gx := Aside0.mk (blk_below BK4_gx.out hb); have BK5_gr := Aside0.mk (blk_below BK4_gr.out hb); clear hb; clear hc4_gx_0 hc4_gx_7; have hc5_gx_0 : w5.cell? ⟨gx, 0, none⟩ = some (.int .i64 a1_0) := (blk_cell BK5_gx.out 0).trans rfl; have hc5_gx_7 : w5.cell? ⟨gx, 7, none⟩ = some (.slice A1_7 l1_7.length c1_7) := (blk_cell BK5_gx.out 7).trans rfl) | ((with_reducible refine gate_dst (N := 48) rfl ?_); refine load_event ?hg (t := 80) (x := ?xl77) ?ho (off := 0) [.slice A0_0 l0_0.length c0_0, .slice A0_1 l0_1.length c0_1, .slice A0_2 l0_2.length c0_2, .slice A0_3 l0_3.length c0_3, .slice A0_4 l0_4.length c0_4] BK5_gp.out ?hx ?hs Tryd.underlying80 rfl ?ht ?_; (case ho => rfl); (case hg => rfl); (case hx => rfl); (case hs => rfl); (case ht => kernel_rfl)) | (go_at_call 83; refine (phase_find.calls (fun k_ => k_ < w.heap.size) A0_0 c0_0 l0_0 (fun k_ => k_ < w.heap.size) A0_1 c0_1 l0_1 (fun k_ => k_ < w.heap.size) A0_2 c0_2 l0_2 (fun k_ => k_ < w.heap.size) A0_3 c0_3 l0_3 (fun k_ => k_ < w.heap.size) A0_4 c0_4 l0_4 a1_0 lv okv _ (Kd.V_mk HC0_0.out (Kd.F_below (Kd.C_F k67_heap HR0_0.out) HB5.out)) (Kd.V_mk HC0_1.out (Kd.F_below (Kd.C_F k67_heap HR0_1.out) HB5.out)) (Kd.V_mk HC0_2.out (Kd.F_below (Kd.C_F k67_heap HR0_2.out) HB5.out)) (Kd.V_mk HC0_3.out (Kd.F_below (Kd.C_F k67_heap HR0_3.out) HB5.out)) (Kd.V_mk HC0_4.out (Kd.F_below (Kd.C_F k67_heap HR0_4.out) HB5.out)) HF.out).mono ?_; rintro e_ w6 ⟨vl, rfl, hv, hb⟩; obtain ⟨Al, cl, rfl, hcl, hfl⟩ := hv; have HCl := Aside0.mk hcl; have HLv := Aside0.mk (Kd.F_now hfl); clear hcl hfl; have HB6 := Aside0.mk (below_step HB5.out hb); have BK6_gp := Aside0.mk (blk_below BK5_gp.out hb); have BK6_gx := Aside0.mk (blk_below BK5_gx.out hb); have BK6_gr := Aside0.mk (blk_below BK5_gr.out hb); clear hb; clear hc5_gx_0 hc5_gx_7; have hc6_gx_0 : w6.cell? ⟨gx, 0, none⟩ = some (.int .i64 a1_0) := (blk_cell BK6_gx.out 0).trans rfl; have hc6_gx_7 : w6.cell? ⟨gx, 7, none⟩ = some (.slice A1_7 l1_7.length c1_7) := (blk_cell BK6_gx.out 7).trans rfl))
 (try simp only [Act.put, List.setIfInBounds_toArray, List.set_cons_zero, List.set_cons_succ])
 refine start_ (n := 20) (S := fun w' => w'.cell? ⟨gx, 3, none⟩ = some (.int .i64 a1_3) ∧ w'.cell? ⟨gx, 4, none⟩ = some (.int .i64 a1_4) ∧ w'.cell? ⟨gx, 7, none⟩ = some (.slice A1_7 l1_7.length c1_7)) (ds := []) #[false, false, false, false, false, false, false, false, false, false, false, false, false, false, false, false, false, false, false, false] (by kernel_rfl) rfl rfl ⟨(blk_cell BK6_gx.out 3).trans rfl, (blk_cell BK6_gx.out 4).trans rfl, (blk_cell BK6_gx.out 7).trans rfl⟩ (fun hHeld => ?_)
 have hb : Below w6.heap.size w6 w6.drew := (Below.refl _ _).drew
 have HB7 := Aside0.mk (below_step HB6.out hb)
 have BK7_gp := Aside0.mk (blk_below BK6_gp.out hb)
 have BK7_gx := Aside0.mk (blk_below BK6_gx.out hb)
 have BK7_gr := Aside0.mk (blk_below BK6_gr.out hb)
 have HCW7_l := Aside0.mk (Kd.C_below HLv.out hb)
 clear hb
 generalize w6.drew = w7 at HB7 BK7_gp BK7_gx BK7_gr HCW7_l hHeld ⊢
 refine qpk 0 (some 55) ?_
 refine qpk 1 (some 56) ?_
 refine qpk 2 (some 57) ?_
 refine qpk 4 (some 59) ?_
 refine qpk 6 (some 61) ?_
 refine take_ (i := 3) (N := some 58) (v := ?_) (a' := ?_) #[Y,Y,Y,Y,Y,Z,Y,Z,Z,Z,Z,Z,Z,Z,Z,Z,Z,Z,Z,Z] rfl rfl (by kernel_rfl) (fun _ _ _ h => h) (Or.inl ⟨by rfl, ?_⟩) hHeld ?_ ?_
 rotate_left
 ·rintro w' ⟨s0, s1_, s2_⟩
  go_simp
  with_reducible rfl
 rotate_left
 ·simp only [Act.put, List.setIfInBounds_toArray, List.set_cons_zero, List.set_cons_succ, i64_w, i32_w]
  rfl
 refine take_ (i := 5) (N := some 60) (v := ?_) (a' := ?_) #[Y,Y,Y,Y,Y,Y,Y,Z,Z,Z,Z,Z,Z,Z,Z,Z,Z,Z,Z,Z] rfl rfl (by kernel_rfl) (fun _ _ _ h => h) (Or.inl ⟨by rfl, ?_⟩) hHeld ?_ ?_
 rotate_left
 ·rintro w' ⟨s0, s1_, s2_⟩
  go_simp
  with_reducible rfl
 rotate_left
 ·simp only [Act.put, List.setIfInBounds_toArray, List.set_cons_zero, List.set_cons_succ, i64_w, i32_w]
  rfl
 refine join_ (σ := Value × Value × Value × Nat) 4 #[Y,Y,Y,Y,Y,Y,Y,Y,Y,Y,Y,Y,Y,Y,Y,Y,Z,Z,Z,Z] (fun s_ => [(62, s_.1), (63, s_.2.1), (64, .tuple #[.agg #[.int .i64 s1, .int .i64 s2], s_.2.2.1, .bool s4, .int .i64 s5]), (54, .tuple #[.agg #[.int .i64 s1, .int .i64 s2], s_.2.2.1, .bool s4, .int .i64 s5]), (65, .agg #[.int .i64 s1, .int .i64 s2]), (66, s_.2.2.1), (67, .bool s4), (68, .int .i64 s5), (12, .pointer (some ⟨s_.2.2.2, 0, none⟩))]) (fun s_ w' => (w'.cell? ⟨gx, 3, none⟩ = some (.int .i64 a1_3) ∧ w'.cell? ⟨gx, 4, none⟩ = some (.int .i64 a1_4) ∧ w'.cell? ⟨gx, 7, none⟩ = some (.slice A1_7 l1_7.length c1_7)) ∧ Kd.R k72 72 w' w.heap.size (fun _ => True) s_.2.2.1 s3 ∧ (w'.heap[gx]? = some (.cells #[.int .i64 a1_0, .int .i64 a1_1, .int .i64 a1_2, .int .i64 a1_3, .int .i64 a1_4, .bool a1_5, .int .i64 a1_6, .slice A1_7 l1_7.length c1_7] 82 (0, 0))) ∧ (w'.heap[gr]? = some (.cells #[.int .i64 0, .int .i64 0, .int .i64 0, .int .i64 0, .int .i64 0, .bool false, .int .i64 0, .slice none 0 0] 82 (0, 0))) ∧ (w'.heap[s_.2.2.2]? = some (.cells #[.int .i64 0, .int .i64 0] 57 (0, 0))) ∧ (w.heap.size ≤ s_.2.2.2) ∧ (gx ≠ s_.2.2.2) ∧ (gr ≠ s_.2.2.2) ∧ Below w.heap.size w w') ?_ ?_
 rotate_left
 ·intro hCont
  refine two_ (i := 7) (j := 15) (Ni := some 62) (Nj := some 12) #[Y,Y,Y,Y,Y,Y,Y,Y,Z,Z,Z,Z,Z,Z,Z,Z,Z,Z,Z,Z] #[Y,Y,Y,Y,Y,Y,Y,Z,Z,Z,Z,Z,Z,Z,Z,Y,Z,Z,Z,Z] rfl rfl rfl rfl (by kernel_rfl) (by decide) (by decide) (fun K hK => ?_) (fun K hK => ?_)
  ·skip
   refine slice_step ?hg (N := 62) ?hd (cs := #[.slice A1_7 l1_7.length c1_7, .slice A2 l2.length c2]) (t := 35) (n := 2) ?hr ?_
   (case hd => rfl)
   (case hg => rfl)
   (case hr => first | (go_simp; done) | (go_simp; rfl))
   intro gs hg w8 hbox hb
   have GE_gs : Aside0 (w.heap.size ≤ gs) := ⟨by rw [hg]; exact below_size HB7.out⟩
   have NE_gp_gs : Aside0 (gp ≠ gs) := ⟨by have h_ := blk_lt BK7_gp.out; omega⟩
   have NE_gx_gs : Aside0 (gx ≠ gs) := ⟨by have h_ := blk_lt BK7_gx.out; omega⟩
   have NE_gr_gs : Aside0 (gr ≠ gs) := ⟨by have h_ := blk_lt BK7_gr.out; omega⟩
   have HB8 := Aside0.mk (below_step HB7.out hb)
   have BK8_gp := Aside0.mk (blk_below BK7_gp.out hb)
   have BK8_gx := Aside0.mk (blk_below BK7_gx.out hb)
   have BK8_gr := Aside0.mk (blk_below BK7_gr.out hb)
   have HCW8_l := Aside0.mk (Kd.C_below HCW7_l.out hb)
   have BK8_gs := Aside0.mk hbox
   clear hbox hb hg
   refine hK.out _ _ ⟨(blk_cell BK8_gx.out 3).trans rfl, (blk_cell BK8_gx.out 4).trans rfl, (blk_cell BK8_gx.out 7).trans rfl⟩ (fun hHeld => ?_)
   clear hK K
   refine norm_ (a' := ?_) ?_ ?_
   rotate_left
   ·show Act.put _ (some 62) _ = _
    simp only [Act.put, List.setIfInBounds_toArray, List.set_cons_zero, List.set_cons_succ, i64_w, i32_w]
    rfl
   refine two_ (i := 8) (j := 15) (Ni := some 63) (Nj := some 12) #[Y,Y,Y,Y,Y,Y,Y,Y,Y,Z,Z,Z,Z,Z,Z,Z,Z,Z,Z,Z] #[Y,Y,Y,Y,Y,Y,Y,Y,Z,Z,Z,Z,Z,Z,Z,Y,Z,Z,Z,Z] rfl rfl rfl rfl (by kernel_rfl) (by decide) (by decide) (fun K hK => ?_) (fun K hK => ?_)
   ·skip
    refine goes_ Tryd.func88 (by kernel_rfl) rfl #[.slice (some ⟨gs, 0, none⟩) 2 2] (by rfl) rfl rfl (by (try simp only [List.map_toArray, List.map_cons, List.map_nil]); first | done | rfl) ?_
    refine (concatC_calls gs A1_7 A2 c1_7 c2 l1_7 l2 _ BK8_gs.out (Kd.C_below HR1_7.out HB8.out) (Kd.C_below HR2.out HB8.out) HL7.out HL2.out).mono ?_
    rintro e_ w9 ⟨v0_, rfl, hr, hb⟩
    obtain ⟨Ac, cc, rfl, hcc, hCc⟩ := Kd.R_reads hr
    have HCC := Aside0.mk hcc
    have HCv9 := Aside0.mk hCc
    clear hcc hCc hr
    refine ⟨_, rfl, ?_⟩
    have HB9 := Aside0.mk (below_step HB8.out hb)
    have BK9_gp := Aside0.mk (blk_below BK8_gp.out hb)
    have BK9_gx := Aside0.mk (blk_below BK8_gx.out hb)
    have BK9_gr := Aside0.mk (blk_below BK8_gr.out hb)
    have BK9_gs := Aside0.mk (blk_below BK8_gs.out hb)
    have HCW9_l := Aside0.mk (Kd.C_below HCW8_l.out hb)
    clear hb
    refine hK.out _ _ ⟨(blk_cell BK9_gx.out 3).trans rfl, (blk_cell BK9_gx.out 4).trans rfl, (blk_cell BK9_gx.out 7).trans rfl⟩ (fun hHeld => ?_)
    clear hK K
    refine norm_ (a' := ?_) ?_ ?_
    rotate_left
    ·show Act.put _ (some 63) _ = _
     simp only [Act.put, List.setIfInBounds_toArray, List.set_cons_zero, List.set_cons_succ, i64_w, i32_w]
     rfl
    refine two_ (i := 9) (j := 15) (Ni := some 64) (Nj := some 12) #[Y,Y,Y,Y,Y,Y,Y,Y,Y,Y,Z,Z,Z,Z,Z,Z,Z,Z,Z,Z] #[Y,Y,Y,Y,Y,Y,Y,Y,Y,Z,Z,Z,Z,Z,Z,Y,Z,Z,Z,Z] rfl rfl rfl rfl (by kernel_rfl) (by decide) (by decide) (fun K hK => ?_) (fun K hK => ?_)
    ·skip
     refine goes_ Tryd.func38 (by kernel_rfl) rfl #[.slice Al lv.length cl, .agg #[.int .i64 a1_3, .int .i64 a1_4], .slice Ac (l1_7 ++ l2).length cc] (by rfl) rfl rfl (by (try simp only [List.map_toArray, List.map_cons, List.map_nil]); first | done | rfl) ?_
     refine (prog_Scan.calls k Al cl lv a1_3 a1_4 Ac cc (l1_7 ++ l2) s1 s2 s3 s4 s5 _ HCW9_l.out HCl.out HCv9.out HCC.out HPS.out (UT.below HT0.out HB9.out)).mono ?_
     rintro e_ w10 ⟨ve, rfl, hr, hb⟩
     have HE10_ := Aside0.mk (Kd.R_lower hr (below_size HB9.out))
     clear hr
     refine ⟨_, rfl, ?_⟩
     have HB10 := Aside0.mk (below_step HB9.out hb)
     have BK10_gp := Aside0.mk (blk_below BK9_gp.out hb)
     have BK10_gx := Aside0.mk (blk_below BK9_gx.out hb)
     have BK10_gr := Aside0.mk (blk_below BK9_gr.out hb)
     have BK10_gs := Aside0.mk (blk_below BK9_gs.out hb)
     have HCW10_l := Aside0.mk (Kd.C_below HCW9_l.out hb)
     have HCW10_c := Aside0.mk (Kd.C_below HCv9.out hb)
     clear hb
     refine hK.out _ _ ⟨(blk_cell BK10_gx.out 3).trans rfl, (blk_cell BK10_gx.out 4).trans rfl, (blk_cell BK10_gx.out 7).trans rfl⟩ (fun hHeld => ?_)
     clear hK K
     refine norm_ (a' := ?_) ?_ ?_
     rotate_left
     ·show Act.put _ (some 64) _ = _
      simp only [Act.put, List.setIfInBounds_toArray, List.set_cons_zero, List.set_cons_succ, i64_w, i32_w]
      rfl
     refine qpk 10 (some 54) ?_
     refine qpk 11 (some 65) ?_
     refine qpk 12 (some 66) ?_
     refine qpk 13 (some 67) ?_
     refine qpk 14 (some 68) ?_
     refine one_ (i := 15) (N := some 12) #[Y,Y,Y,Y,Y,Y,Y,Y,Y,Y,Y,Y,Y,Y,Y,Y,Z,Z,Z,Z] rfl rfl (by kernel_rfl) (by decide) (fun K hK => ?_)
     refine box_step ?hg (N := 12) ?hd (cs := #[.int .i64 0, .int .i64 0]) (t := 57) ?hr ?_
     (case hd => rfl)
     (case hg => rfl)
     (case hr => first | (go_simp; done) | (go_simp; rfl))
     intro gm hg w11 hbox hb
     have GE_gm : Aside0 (w.heap.size ≤ gm) := ⟨by rw [hg]; exact below_size HB10.out⟩
     have NE_gp_gm : Aside0 (gp ≠ gm) := ⟨by have h_ := blk_lt BK10_gp.out; omega⟩
     have NE_gx_gm : Aside0 (gx ≠ gm) := ⟨by have h_ := blk_lt BK10_gx.out; omega⟩
     have NE_gr_gm : Aside0 (gr ≠ gm) := ⟨by have h_ := blk_lt BK10_gr.out; omega⟩
     have NE_gs_gm : Aside0 (gs ≠ gm) := ⟨by have h_ := blk_lt BK10_gs.out; omega⟩
     have HB11 := Aside0.mk (below_step HB10.out hb)
     have BK11_gp := Aside0.mk (blk_below BK10_gp.out hb)
     have BK11_gx := Aside0.mk (blk_below BK10_gx.out hb)
     have BK11_gr := Aside0.mk (blk_below BK10_gr.out hb)
     have BK11_gs := Aside0.mk (blk_below BK10_gs.out hb)
     have HR11_e := Aside0.mk (Kd.R_below HE10_.out hb)
     have HCW11_l := Aside0.mk (Kd.C_below HCW10_l.out hb)
     have HCW11_c := Aside0.mk (Kd.C_below HCW10_c.out hb)
     have BK11_gm := Aside0.mk hbox
     clear hbox hb hg
     refine hK.out _ _ ⟨(blk_cell BK11_gx.out 3).trans rfl, (blk_cell BK11_gx.out 4).trans rfl, (blk_cell BK11_gx.out 7).trans rfl⟩ (fun hHeld => ?_)
     clear hK K
     refine norm_ (a' := ?_) ?_ ?_
     rotate_left
     ·show Act.put _ (some 12) _ = _
      simp only [Act.put, List.setIfInBounds_toArray, List.set_cons_zero, List.set_cons_succ, i64_w, i32_w]
      rfl
     exact norm_ (by simp only [putAll, Act.put, List.setIfInBounds_toArray, List.set_cons_zero, List.set_cons_succ]) (hCont (.slice (some ⟨gs, 0, none⟩) 2 2, .slice Ac (l1_7 ++ l2).length cc, ve, gm) _ ⟨hHeld, HR11_e.out, BK11_gx.out, BK11_gr.out, BK11_gm.out, GE_gm.out, NE_gx_gm.out, NE_gr_gm.out, HB11.out⟩)
    skip
    refine box_step ?hg (N := 12) ?hd (cs := #[.int .i64 0, .int .i64 0]) (t := 57) ?hr ?_
    (case hd => rfl)
    (case hg => rfl)
    (case hr => first | (go_simp; done) | (go_simp; rfl))
    intro gm hg w10 hbox hb
    have GE_gm : Aside0 (w.heap.size ≤ gm) := ⟨by rw [hg]; exact below_size HB9.out⟩
    have NE_gp_gm : Aside0 (gp ≠ gm) := ⟨by have h_ := blk_lt BK9_gp.out; omega⟩
    have NE_gx_gm : Aside0 (gx ≠ gm) := ⟨by have h_ := blk_lt BK9_gx.out; omega⟩
    have NE_gr_gm : Aside0 (gr ≠ gm) := ⟨by have h_ := blk_lt BK9_gr.out; omega⟩
    have NE_gs_gm : Aside0 (gs ≠ gm) := ⟨by have h_ := blk_lt BK9_gs.out; omega⟩
    have HB10 := Aside0.mk (below_step HB9.out hb)
    have BK10_gp := Aside0.mk (blk_below BK9_gp.out hb)
    have BK10_gx := Aside0.mk (blk_below BK9_gx.out hb)
    have BK10_gr := Aside0.mk (blk_below BK9_gr.out hb)
    have BK10_gs := Aside0.mk (blk_below BK9_gs.out hb)
    have HCW10_l := Aside0.mk (Kd.C_below HCW9_l.out hb)
    have HCW10_c := Aside0.mk (Kd.C_below HCv9.out hb)
    have BK10_gm := Aside0.mk hbox
    clear hbox hb hg
    refine hK.out _ _ ⟨(blk_cell BK10_gx.out 3).trans rfl, (blk_cell BK10_gx.out 4).trans rfl, (blk_cell BK10_gx.out 7).trans rfl⟩ (fun hHeld => ?_)
    clear hK K
    refine norm_ (a' := ?_) ?_ ?_
    rotate_left
    ·show Act.put _ (some 12) _ = _
     simp only [Act.put, List.setIfInBounds_toArray, List.set_cons_zero, List.set_cons_succ, i64_w, i32_w]
     rfl
    refine one_ (i := 9) (N := some 64) #[Y,Y,Y,Y,Y,Y,Y,Y,Y,Y,Z,Z,Z,Z,Z,Y,Z,Z,Z,Z] rfl rfl (by kernel_rfl) (by decide) (fun K hK => ?_)
    refine goes_ Tryd.func38 (by kernel_rfl) rfl #[.slice Al lv.length cl, .agg #[.int .i64 a1_3, .int .i64 a1_4], .slice Ac (l1_7 ++ l2).length cc] (by rfl) rfl rfl (by (try simp only [List.map_toArray, List.map_cons, List.map_nil]); first | done | rfl) ?_
    refine (prog_Scan.calls k Al cl lv a1_3 a1_4 Ac cc (l1_7 ++ l2) s1 s2 s3 s4 s5 _ HCW10_l.out HCl.out HCW10_c.out HCC.out HPS.out (UT.below HT0.out HB10.out)).mono ?_
    rintro e_ w11 ⟨ve, rfl, hr, hb⟩
    have HE11_ := Aside0.mk (Kd.R_lower hr (below_size HB10.out))
    clear hr
    refine ⟨_, rfl, ?_⟩
    have HB11 := Aside0.mk (below_step HB10.out hb)
    have BK11_gp := Aside0.mk (blk_below BK10_gp.out hb)
    have BK11_gx := Aside0.mk (blk_below BK10_gx.out hb)
    have BK11_gr := Aside0.mk (blk_below BK10_gr.out hb)
    have BK11_gs := Aside0.mk (blk_below BK10_gs.out hb)
    have BK11_gm := Aside0.mk (blk_below BK10_gm.out hb)
    have HCW11_l := Aside0.mk (Kd.C_below HCW10_l.out hb)
    have HCW11_c := Aside0.mk (Kd.C_below HCW10_c.out hb)
    clear hb
    refine hK.out _ _ ⟨(blk_cell BK11_gx.out 3).trans rfl, (blk_cell BK11_gx.out 4).trans rfl, (blk_cell BK11_gx.out 7).trans rfl⟩ (fun hHeld => ?_)
    clear hK K
    refine norm_ (a' := ?_) ?_ ?_
    rotate_left
    ·show Act.put _ (some 64) _ = _
     simp only [Act.put, List.setIfInBounds_toArray, List.set_cons_zero, List.set_cons_succ, i64_w, i32_w]
     rfl
    refine qpk 10 (some 54) ?_
    refine qpk 11 (some 65) ?_
    refine qpk 12 (some 66) ?_
    refine qpk 13 (some 67) ?_
    refine qpk 14 (some 68) ?_
    exact norm_ (by simp only [putAll, Act.put, List.setIfInBounds_toArray, List.set_cons_zero, List.set_cons_succ]) (hCont (.slice (some ⟨gs, 0, none⟩) 2 2, .slice Ac (l1_7 ++ l2).length cc, ve, gm) _ ⟨hHeld, HE11_.out, BK11_gx.out, BK11_gr.out, BK11_gm.out, GE_gm.out, NE_gx_gm.out, NE_gr_gm.out, HB11.out⟩)
   skip
   refine box_step ?hg (N := 12) ?hd (cs := #[.int .i64 0, .int .i64 0]) (t := 57) ?hr ?_
   (case hd => rfl)
   (case hg => rfl)
   (case hr => first | (go_simp; done) | (go_simp; rfl))
   intro gm hg w9 hbox hb
   have GE_gm : Aside0 (w.heap.size ≤ gm) := ⟨by rw [hg]; exact below_size HB8.out⟩
   have NE_gp_gm : Aside0 (gp ≠ gm) := ⟨by have h_ := blk_lt BK8_gp.out; omega⟩
   have NE_gx_gm : Aside0 (gx ≠ gm) := ⟨by have h_ := blk_lt BK8_gx.out; omega⟩
   have NE_gr_gm : Aside0 (gr ≠ gm) := ⟨by have h_ := blk_lt BK8_gr.out; omega⟩
   have NE_gs_gm : Aside0 (gs ≠ gm) := ⟨by have h_ := blk_lt BK8_gs.out; omega⟩
   have HB9 := Aside0.mk (below_step HB8.out hb)
   have BK9_gp := Aside0.mk (blk_below BK8_gp.out hb)
   have BK9_gx := Aside0.mk (blk_below BK8_gx.out hb)
   have BK9_gr := Aside0.mk (blk_below BK8_gr.out hb)
   have BK9_gs := Aside0.mk (blk_below BK8_gs.out hb)
   have HCW9_l := Aside0.mk (Kd.C_below HCW8_l.out hb)
   have BK9_gm := Aside0.mk hbox
   clear hbox hb hg
   refine hK.out _ _ ⟨(blk_cell BK9_gx.out 3).trans rfl, (blk_cell BK9_gx.out 4).trans rfl, (blk_cell BK9_gx.out 7).trans rfl⟩ (fun hHeld => ?_)
   clear hK K
   refine norm_ (a' := ?_) ?_ ?_
   rotate_left
   ·show Act.put _ (some 12) _ = _
    simp only [Act.put, List.setIfInBounds_toArray, List.set_cons_zero, List.set_cons_succ, i64_w, i32_w]
    rfl
   refine one_ (i := 8) (N := some 63) #[Y,Y,Y,Y,Y,Y,Y,Y,Y,Z,Z,Z,Z,Z,Z,Y,Z,Z,Z,Z] rfl rfl (by kernel_rfl) (by decide) (fun K hK => ?_)
   refine goes_ Tryd.func88 (by kernel_rfl) rfl #[.slice (some ⟨gs, 0, none⟩) 2 2] (by rfl) rfl rfl (by (try simp only [List.map_toArray, List.map_cons, List.map_nil]); first | done | rfl) ?_
   refine (concatC_calls gs A1_7 A2 c1_7 c2 l1_7 l2 _ BK9_gs.out (Kd.C_below HR1_7.out HB9.out) (Kd.C_below HR2.out HB9.out) HL7.out HL2.out).mono ?_
   rintro e_ w10 ⟨v0_, rfl, hr, hb⟩
   obtain ⟨Ac, cc, rfl, hcc, hCc⟩ := Kd.R_reads hr
   have HCC := Aside0.mk hcc
   have HCv10 := Aside0.mk hCc
   clear hcc hCc hr
   refine ⟨_, rfl, ?_⟩
   have HB10 := Aside0.mk (below_step HB9.out hb)
   have BK10_gp := Aside0.mk (blk_below BK9_gp.out hb)
   have BK10_gx := Aside0.mk (blk_below BK9_gx.out hb)
   have BK10_gr := Aside0.mk (blk_below BK9_gr.out hb)
   have BK10_gs := Aside0.mk (blk_below BK9_gs.out hb)
   have BK10_gm := Aside0.mk (blk_below BK9_gm.out hb)
   have HCW10_l := Aside0.mk (Kd.C_below HCW9_l.out hb)
   clear hb
   refine hK.out _ _ ⟨(blk_cell BK10_gx.out 3).trans rfl, (blk_cell BK10_gx.out 4).trans rfl, (blk_cell BK10_gx.out 7).trans rfl⟩ (fun hHeld => ?_)
   clear hK K
   refine norm_ (a' := ?_) ?_ ?_
   rotate_left
   ·show Act.put _ (some 63) _ = _
    simp only [Act.put, List.setIfInBounds_toArray, List.set_cons_zero, List.set_cons_succ, i64_w, i32_w]
    rfl
   refine one_ (i := 9) (N := some 64) #[Y,Y,Y,Y,Y,Y,Y,Y,Y,Y,Z,Z,Z,Z,Z,Y,Z,Z,Z,Z] rfl rfl (by kernel_rfl) (by decide) (fun K hK => ?_)
   refine goes_ Tryd.func38 (by kernel_rfl) rfl #[.slice Al lv.length cl, .agg #[.int .i64 a1_3, .int .i64 a1_4], .slice Ac (l1_7 ++ l2).length cc] (by rfl) rfl rfl (by (try simp only [List.map_toArray, List.map_cons, List.map_nil]); first | done | rfl) ?_
   refine (prog_Scan.calls k Al cl lv a1_3 a1_4 Ac cc (l1_7 ++ l2) s1 s2 s3 s4 s5 _ HCW10_l.out HCl.out HCv10.out HCC.out HPS.out (UT.below HT0.out HB10.out)).mono ?_
   rintro e_ w11 ⟨ve, rfl, hr, hb⟩
   have HE11_ := Aside0.mk (Kd.R_lower hr (below_size HB10.out))
   clear hr
   refine ⟨_, rfl, ?_⟩
   have HB11 := Aside0.mk (below_step HB10.out hb)
   have BK11_gp := Aside0.mk (blk_below BK10_gp.out hb)
   have BK11_gx := Aside0.mk (blk_below BK10_gx.out hb)
   have BK11_gr := Aside0.mk (blk_below BK10_gr.out hb)
   have BK11_gs := Aside0.mk (blk_below BK10_gs.out hb)
   have BK11_gm := Aside0.mk (blk_below BK10_gm.out hb)
   have HCW11_l := Aside0.mk (Kd.C_below HCW10_l.out hb)
   have HCW11_c := Aside0.mk (Kd.C_below HCv10.out hb)
   clear hb
   refine hK.out _ _ ⟨(blk_cell BK11_gx.out 3).trans rfl, (blk_cell BK11_gx.out 4).trans rfl, (blk_cell BK11_gx.out 7).trans rfl⟩ (fun hHeld => ?_)
   clear hK K
   refine norm_ (a' := ?_) ?_ ?_
   rotate_left
   ·show Act.put _ (some 64) _ = _
    simp only [Act.put, List.setIfInBounds_toArray, List.set_cons_zero, List.set_cons_succ, i64_w, i32_w]
    rfl
   refine qpk 10 (some 54) ?_
   refine qpk 11 (some 65) ?_
   refine qpk 12 (some 66) ?_
   refine qpk 13 (some 67) ?_
   refine qpk 14 (some 68) ?_
   exact norm_ (by simp only [putAll, Act.put, List.setIfInBounds_toArray, List.set_cons_zero, List.set_cons_succ]) (hCont (.slice (some ⟨gs, 0, none⟩) 2 2, .slice Ac (l1_7 ++ l2).length cc, ve, gm) _ ⟨hHeld, HE11_.out, BK11_gx.out, BK11_gr.out, BK11_gm.out, GE_gm.out, NE_gx_gm.out, NE_gr_gm.out, HB11.out⟩)
  skip
  refine box_step ?hg (N := 12) ?hd (cs := #[.int .i64 0, .int .i64 0]) (t := 57) ?hr ?_
  (case hd => rfl)
  (case hg => rfl)
  (case hr => first | (go_simp; done) | (go_simp; rfl))
  intro gm hg w8 hbox hb
  have GE_gm : Aside0 (w.heap.size ≤ gm) := ⟨by rw [hg]; exact below_size HB7.out⟩
  have NE_gp_gm : Aside0 (gp ≠ gm) := ⟨by have h_ := blk_lt BK7_gp.out; omega⟩
  have NE_gx_gm : Aside0 (gx ≠ gm) := ⟨by have h_ := blk_lt BK7_gx.out; omega⟩
  have NE_gr_gm : Aside0 (gr ≠ gm) := ⟨by have h_ := blk_lt BK7_gr.out; omega⟩
  have HB8 := Aside0.mk (below_step HB7.out hb)
  have BK8_gp := Aside0.mk (blk_below BK7_gp.out hb)
  have BK8_gx := Aside0.mk (blk_below BK7_gx.out hb)
  have BK8_gr := Aside0.mk (blk_below BK7_gr.out hb)
  have HCW8_l := Aside0.mk (Kd.C_below HCW7_l.out hb)
  have BK8_gm := Aside0.mk hbox
  clear hbox hb hg
  refine hK.out _ _ ⟨(blk_cell BK8_gx.out 3).trans rfl, (blk_cell BK8_gx.out 4).trans rfl, (blk_cell BK8_gx.out 7).trans rfl⟩ (fun hHeld => ?_)
  clear hK K
  refine norm_ (a' := ?_) ?_ ?_
  rotate_left
  ·show Act.put _ (some 12) _ = _
   simp only [Act.put, List.setIfInBounds_toArray, List.set_cons_zero, List.set_cons_succ, i64_w, i32_w]
   rfl
  refine one_ (i := 7) (N := some 62) #[Y,Y,Y,Y,Y,Y,Y,Y,Z,Z,Z,Z,Z,Z,Z,Y,Z,Z,Z,Z] rfl rfl (by kernel_rfl) (by decide) (fun K hK => ?_)
  refine slice_step ?hg (N := 62) ?hd (cs := #[.slice A1_7 l1_7.length c1_7, .slice A2 l2.length c2]) (t := 35) (n := 2) ?hr ?_
  (case hd => rfl)
  (case hg => rfl)
  (case hr => first | (go_simp; done) | (go_simp; rfl))
  intro gs hg w9 hbox hb
  have GE_gs : Aside0 (w.heap.size ≤ gs) := ⟨by rw [hg]; exact below_size HB8.out⟩
  have NE_gp_gs : Aside0 (gp ≠ gs) := ⟨by have h_ := blk_lt BK8_gp.out; omega⟩
  have NE_gx_gs : Aside0 (gx ≠ gs) := ⟨by have h_ := blk_lt BK8_gx.out; omega⟩
  have NE_gr_gs : Aside0 (gr ≠ gs) := ⟨by have h_ := blk_lt BK8_gr.out; omega⟩
  have NE_gm_gs : Aside0 (gm ≠ gs) := ⟨by have h_ := blk_lt BK8_gm.out; omega⟩
  have HB9 := Aside0.mk (below_step HB8.out hb)
  have BK9_gp := Aside0.mk (blk_below BK8_gp.out hb)
  have BK9_gx := Aside0.mk (blk_below BK8_gx.out hb)
  have BK9_gr := Aside0.mk (blk_below BK8_gr.out hb)
  have BK9_gm := Aside0.mk (blk_below BK8_gm.out hb)
  have HCW9_l := Aside0.mk (Kd.C_below HCW8_l.out hb)
  have BK9_gs := Aside0.mk hbox
  clear hbox hb hg
  refine hK.out _ _ ⟨(blk_cell BK9_gx.out 3).trans rfl, (blk_cell BK9_gx.out 4).trans rfl, (blk_cell BK9_gx.out 7).trans rfl⟩ (fun hHeld => ?_)
  clear hK K
  refine norm_ (a' := ?_) ?_ ?_
  rotate_left
  ·show Act.put _ (some 62) _ = _
   simp only [Act.put, List.setIfInBounds_toArray, List.set_cons_zero, List.set_cons_succ, i64_w, i32_w]
   rfl
  refine one_ (i := 8) (N := some 63) #[Y,Y,Y,Y,Y,Y,Y,Y,Y,Z,Z,Z,Z,Z,Z,Y,Z,Z,Z,Z] rfl rfl (by kernel_rfl) (by decide) (fun K hK => ?_)
  refine goes_ Tryd.func88 (by kernel_rfl) rfl #[.slice (some ⟨gs, 0, none⟩) 2 2] (by rfl) rfl rfl (by (try simp only [List.map_toArray, List.map_cons, List.map_nil]); first | done | rfl) ?_
  refine (concatC_calls gs A1_7 A2 c1_7 c2 l1_7 l2 _ BK9_gs.out (Kd.C_below HR1_7.out HB9.out) (Kd.C_below HR2.out HB9.out) HL7.out HL2.out).mono ?_
  rintro e_ w10 ⟨v0_, rfl, hr, hb⟩
  obtain ⟨Ac, cc, rfl, hcc, hCc⟩ := Kd.R_reads hr
  have HCC := Aside0.mk hcc
  have HCv10 := Aside0.mk hCc
  clear hcc hCc hr
  refine ⟨_, rfl, ?_⟩
  have HB10 := Aside0.mk (below_step HB9.out hb)
  have BK10_gp := Aside0.mk (blk_below BK9_gp.out hb)
  have BK10_gx := Aside0.mk (blk_below BK9_gx.out hb)
  have BK10_gr := Aside0.mk (blk_below BK9_gr.out hb)
  have BK10_gm := Aside0.mk (blk_below BK9_gm.out hb)
  have BK10_gs := Aside0.mk (blk_below BK9_gs.out hb)
  have HCW10_l := Aside0.mk (Kd.C_below HCW9_l.out hb)
  clear hb
  refine hK.out _ _ ⟨(blk_cell BK10_gx.out 3).trans rfl, (blk_cell BK10_gx.out 4).trans rfl, (blk_cell BK10_gx.out 7).trans rfl⟩ (fun hHeld => ?_)
  clear hK K
  refine norm_ (a' := ?_) ?_ ?_
  rotate_left
  ·show Act.put _ (some 63) _ = _
   simp only [Act.put, List.setIfInBounds_toArray, List.set_cons_zero, List.set_cons_succ, i64_w, i32_w]
   rfl
  refine one_ (i := 9) (N := some 64) #[Y,Y,Y,Y,Y,Y,Y,Y,Y,Y,Z,Z,Z,Z,Z,Y,Z,Z,Z,Z] rfl rfl (by kernel_rfl) (by decide) (fun K hK => ?_)
  refine goes_ Tryd.func38 (by kernel_rfl) rfl #[.slice Al lv.length cl, .agg #[.int .i64 a1_3, .int .i64 a1_4], .slice Ac (l1_7 ++ l2).length cc] (by rfl) rfl rfl (by (try simp only [List.map_toArray, List.map_cons, List.map_nil]); first | done | rfl) ?_
  refine (prog_Scan.calls k Al cl lv a1_3 a1_4 Ac cc (l1_7 ++ l2) s1 s2 s3 s4 s5 _ HCW10_l.out HCl.out HCv10.out HCC.out HPS.out (UT.below HT0.out HB10.out)).mono ?_
  rintro e_ w11 ⟨ve, rfl, hr, hb⟩
  have HE11_ := Aside0.mk (Kd.R_lower hr (below_size HB10.out))
  clear hr
  refine ⟨_, rfl, ?_⟩
  have HB11 := Aside0.mk (below_step HB10.out hb)
  have BK11_gp := Aside0.mk (blk_below BK10_gp.out hb)
  have BK11_gx := Aside0.mk (blk_below BK10_gx.out hb)
  have BK11_gr := Aside0.mk (blk_below BK10_gr.out hb)
  have BK11_gm := Aside0.mk (blk_below BK10_gm.out hb)
  have BK11_gs := Aside0.mk (blk_below BK10_gs.out hb)
  have HCW11_l := Aside0.mk (Kd.C_below HCW10_l.out hb)
  have HCW11_c := Aside0.mk (Kd.C_below HCv10.out hb)
  clear hb
  refine hK.out _ _ ⟨(blk_cell BK11_gx.out 3).trans rfl, (blk_cell BK11_gx.out 4).trans rfl, (blk_cell BK11_gx.out 7).trans rfl⟩ (fun hHeld => ?_)
  clear hK K
  refine norm_ (a' := ?_) ?_ ?_
  rotate_left
  ·show Act.put _ (some 64) _ = _
   simp only [Act.put, List.setIfInBounds_toArray, List.set_cons_zero, List.set_cons_succ, i64_w, i32_w]
   rfl
  refine qpk 10 (some 54) ?_
  refine qpk 11 (some 65) ?_
  refine qpk 12 (some 66) ?_
  refine qpk 13 (some 67) ?_
  refine qpk 14 (some 68) ?_
  exact norm_ (by simp only [putAll, Act.put, List.setIfInBounds_toArray, List.set_cons_zero, List.set_cons_succ]) (hCont (.slice (some ⟨gs, 0, none⟩) 2 2, .slice Ac (l1_7 ++ l2).length cc, ve, gm) _ ⟨hHeld, HE11_.out, BK11_gx.out, BK11_gr.out, BK11_gm.out, GE_gm.out, NE_gx_gm.out, NE_gr_gm.out, HB11.out⟩)
 rintro ⟨v62, v63, ve, gm⟩ w41 ⟨hS_, hE_, hX_, hR_, hM_, hG_, hN_, hO_, hB_⟩
 have HE41 := Aside0.mk hE_
 have BK41_gx := Aside0.mk hX_
 have BK41_gr := Aside0.mk hR_
 have BK41_gm := Aside0.mk hM_
 have GE_gm := Aside0.mk hG_
 have NE_gx_gm := Aside0.mk hN_
 have NE_gr_gm := Aside0.mk hO_
 have HB41 := Aside0.mk hB_
 have hHeld : w41.cell? ⟨gx, 3, none⟩ = some (.int .i64 a1_3) ∧ w41.cell? ⟨gx, 4, none⟩ = some (.int .i64 a1_4) ∧ w41.cell? ⟨gx, 7, none⟩ = some (.slice A1_7 l1_7.length c1_7) := hS_
 have NE_gm_gx : Aside0 (gm ≠ gx) := ⟨fun h_ => NE_gx_gm.out h_.symm⟩
 have NE_gm_gr : Aside0 (gm ≠ gr) := ⟨fun h_ => NE_gr_gm.out h_.symm⟩
 clear hE_ hX_ hR_ hM_ hG_ hN_ hO_ hB_ hS_
 refine norm_ (a' := ?_) ?_ ?_
 rotate_left
 ·simp only [putAll, Act.put, List.setIfInBounds_toArray, List.set_cons_zero, List.set_cons_succ]
  rfl
 refine one_ (i := 16) (N := none) #[Y,Y,Y,Y,Y,Y,Y,Y,Y,Y,Y,Y,Y,Y,Y,Y,Y,Z,Z,Z] rfl rfl (by kernel_rfl) (by decide) (fun K hK => ?_)
 refine put_step ?hg ?hn (t := 57) (x := .tmp 12) (y := .tmp 65) ?ho (off := 0) [.int .i64 s1, .int .i64 s2] BK41_gm.out ?hx ?hy ?ht ?hf rfl #[.int .i64 s1, .int .i64 s2] ?hcs ?_
 (case ho => rfl)
 (case hg => rfl)
 (case hn => rfl)
 (case hx => rfl)
 (case hy => rfl)
 (case ht => kernel_rfl)
 (case hf => exact Nat.le_of_ble_eq_true rfl)
 (case hcs => rfl)
 intro w42 hbox hp
 have HB42 := Aside0.mk (HB41.out.trans (hp.below.mono GE_gm.out))
 have BK42_gm := Aside0.mk hbox
 have BK42_gx := Aside0.mk (hp.blk BK41_gx.out NE_gx_gm.out)
 have BK42_gr := Aside0.mk (hp.blk BK41_gr.out NE_gr_gm.out)
 have HE42 := Aside0.mk (R_put HE41.out BK41_gm.out (by decide) hp)
 clear hbox hp
 refine hK.out _ _ ⟨(blk_cell BK42_gx.out 3).trans rfl, (blk_cell BK42_gx.out 4).trans rfl, (blk_cell BK42_gx.out 7).trans rfl⟩ (fun hHeld => ?_)
 clear hK K
 refine qpk 17 (some 13) ?_
 refine qpk 18 (some 14) ?_
 refine qpk 19 (some 15) ?_
 refine done_ (by kernel_rfl) ?_
 clear hHeld
 have h := HH.out
 have q2 := HQ2.out
 clear HH HQ2
 by_cases q3 : s5 = 0
 ·rw [if_pos q3] at h
  obtain ⟨t8, hK, h⟩ := Option.bind_eq_some_iff.mp h
  (try rw [if_neg q2] at h)
  have HK := Aside0.mk hK
  clear hK q2
  have q3a : (s5 == 0) = true := beq_iff_eq.mpr q3
  have q3b : (s5 != 0) = false := bne_eq_false_iff_eq.mpr q3
  clear q3
  unfold phase_Scan.lead at h
  cases s4 with
  | true =>
   rw [if_pos rfl] at h
   obtain ⟨⟨tq, td⟩, hD, h⟩ := Option.bind_eq_some_iff.mp h
   obtain ⟨⟨u1, u2, u3, u4, u5, u6, u7, u8⟩, hI, h⟩ := Option.bind_eq_some_iff.mp h
   simp only [Option.some.injEq, Prod.mk.injEq] at h
   obtain ⟨rfl, rfl, rfl, rfl, rfl, rfl, rfl, rfl, rfl, rfl⟩ := h
   have HD := Aside0.mk hD
   have HI := Aside0.mk hI
   clear hD hI
   have hc42_gx_0 : w42.cell? ⟨gx, 0, none⟩ = some (.int .i64 a1_0) := (blk_cell BK42_gx.out 0).trans rfl
   have hc42_gx_7 : w42.cell? ⟨gx, 7, none⟩ = some (.slice A1_7 l1_7.length c1_7) := (blk_cell BK42_gx.out 7).trans rfl
   go_wp2_with (first | ((with_reducible refine gate_dst (N := 79) rfl ?_); refine load_event ?hg (t := 57) (x := ?xl78) ?ho (off := 0) [.int .i64 s1, .int .i64 s2] BK42_gm.out ?hx ?hs Tryd.underlying57 rfl ?ht ?_; (case ho => rfl); (case hg => rfl); (case hx => rfl); (case hs => rfl); (case ht => kernel_rfl)) | ((with_reducible refine gate_store (t := 57) (p := 80) rfl ?_); refine put_event (t := 57) (x := ?xo79) (y := ?yo80) (off := 3) ?hg ?hn ?ho [.int .i64 s1, .int .i64 s2] BK42_gx.out ?hx ?hy ?ht ?hf rfl #[.int .i64 a1_0, .int .i64 a1_1, .int .i64 a1_2, .int .i64 s1, .int .i64 s2, .bool a1_5, .int .i64 a1_6, .slice A1_7 l1_7.length c1_7] ?hcs ?_; (case ho => rfl); (case hg => rfl); (case hn => rfl); (case hx => rfl); (case hy => rfl); (case ht => kernel_rfl); (case hf => exact Nat.le_of_ble_eq_true rfl); (case hcs => rfl); intro w43 hbox hp; have HB43 := Aside0.mk (HB42.out.trans (hp.below.mono GE_gx.out)); have BK43_gx := Aside0.mk hbox; have BK43_gr := Aside0.mk (hp.blk BK42_gr.out NE_gr_gx.out); have BK43_gm := Aside0.mk (hp.blk BK42_gm.out NE_gm_gx.out); have HR43_e := Aside0.mk (R_put HE42.out BK42_gx.out (by decide) hp); clear hbox hp; clear hc42_gx_0 hc42_gx_7; have hc43_gx_0 : w43.cell? ⟨gx, 0, none⟩ = some (.int .i64 a1_0) := (blk_cell BK43_gx.out 0).trans rfl; have hc43_gx_7 : w43.cell? ⟨gx, 7, none⟩ = some (.slice A1_7 l1_7.length c1_7) := (blk_cell BK43_gx.out 7).trans rfl) | (go_at_call 86; refine (api_Cell_86.calls A1_7 c1_7 l1_7 t8 _ (Kd.C_below HR1_7.out HB43.out) HC1_7.out HK.out).mono ?_; rintro e_ w44 ⟨v0_, rfl, hr, hb⟩; obtain ⟨Aq, cq, rfl, hcq, hCq⟩ := Kd.R_reads hr; have HL44_q := Aside0.mk (Kd.R_lower hr (below_size HB43.out)); have HC_q := Aside0.mk hcq; have HV44_q := Aside0.mk hCq; clear hCq hr hcq; have HB44 := Aside0.mk (below_step HB43.out hb); have BK44_gx := Aside0.mk (blk_below BK43_gx.out hb); have BK44_gr := Aside0.mk (blk_below BK43_gr.out hb); have BK44_gm := Aside0.mk (blk_below BK43_gm.out hb); have HR44_e := Aside0.mk (Kd.R_below HR43_e.out hb); clear hb; clear hc43_gx_0 hc43_gx_7; have hc44_gx_0 : w44.cell? ⟨gx, 0, none⟩ = some (.int .i64 a1_0) := (blk_cell BK44_gx.out 0).trans rfl; have hc44_gx_7 : w44.cell? ⟨gx, 7, none⟩ = some (.slice A1_7 l1_7.length c1_7) := (blk_cell BK44_gx.out 7).trans rfl) | ((with_reducible refine gate_store (t := 35) (p := 84) rfl ?_); refine put_event (t := 35) (x := ?xo81) (y := ?yo82) (off := 7) ?hg ?hn ?ho [.slice Aq t8.length cq] BK44_gx.out ?hx ?hy ?ht ?hf rfl #[.int .i64 a1_0, .int .i64 a1_1, .int .i64 a1_2, .int .i64 s1, .int .i64 s2, .bool a1_5, .int .i64 a1_6, .slice Aq t8.length cq] ?hcs ?_; (case ho => rfl); (case hg => rfl); (case hn => rfl); (case hx => rfl); (case hy => rfl); (case ht => kernel_rfl); (case hf => exact Nat.le_of_ble_eq_true rfl); (case hcs => rfl); intro w45 hbox hp; have HB45 := Aside0.mk (HB44.out.trans (hp.below.mono GE_gx.out)); have BK45_gx := Aside0.mk hbox; have BK45_gr := Aside0.mk (hp.blk BK44_gr.out NE_gr_gx.out); have BK45_gm := Aside0.mk (hp.blk BK44_gm.out NE_gm_gx.out); have HR45_e := Aside0.mk (R_put HR44_e.out BK44_gx.out (by decide) hp); have HR45_q := Aside0.mk (R_put HL44_q.out BK44_gx.out (by decide) hp); clear hbox hp; clear hc44_gx_0 hc44_gx_7; have hc45_gx_0 : w45.cell? ⟨gx, 0, none⟩ = some (.int .i64 a1_0) := (blk_cell BK45_gx.out 0).trans rfl; have hc45_gx_7 : w45.cell? ⟨gx, 7, none⟩ = some (.slice Aq t8.length cq) := (blk_cell BK45_gx.out 7).trans rfl) | (go_at_call 90; refine (chart_Done.calls a1_0 tq td _ HD.out).mono ?_; rintro e_ w46 ⟨rfl, hdr⟩; have hb := hdr.below; clear hdr; have HB46 := Aside0.mk (below_step HB45.out hb); have BK46_gx := Aside0.mk (blk_below BK45_gx.out hb); have BK46_gr := Aside0.mk (blk_below BK45_gr.out hb); have BK46_gm := Aside0.mk (blk_below BK45_gm.out hb); have HR46_e := Aside0.mk (Kd.R_below HR45_e.out hb); have HR46_q := Aside0.mk (Kd.R_below HR45_q.out hb); clear hb; clear hc45_gx_0 hc45_gx_7; have hc46_gx_0 : w46.cell? ⟨gx, 0, none⟩ = some (.int .i64 a1_0) := (blk_cell BK46_gx.out 0).trans rfl; have hc46_gx_7 : w46.cell? ⟨gx, 7, none⟩ = some (.slice Aq t8.length cq) := (blk_cell BK46_gx.out 7).trans rfl) | ((with_reducible refine gate_dst (N := 92) rfl ?_); refine load_event ?hg (t := 82) (x := ?xl83) ?ho (off := 0) [.int .i64 a1_0, .int .i64 a1_1, .int .i64 a1_2, .int .i64 s1, .int .i64 s2, .bool a1_5, .int .i64 a1_6, .slice Aq t8.length cq] BK46_gx.out ?hx ?hs Tryd.underlying82 rfl ?ht ?_; (case ho => rfl); (case hg => rfl); (case hx => rfl); (case hs => rfl); (case ht => kernel_rfl)) | (go_at_call 85; refine (phase_in.calls a1_0 a1_1 a1_2 s1 s2 a1_5 a1_6 Aq cq t8 tq u1 u2 u3 u4 u5 u6 u7 u8 _ (Kd.R_reads' HR46_q.out).2.2 HC_q.out HI.out).mono ?_; rintro e_ w47 ⟨v7_, rfl, hr, hb⟩; obtain ⟨Au, cu, rfl, hcu, hCu⟩ := Kd.R_reads hr; have HL47_u := Aside0.mk (Kd.R_lower hr (below_size HB46.out)); have HC_u := Aside0.mk hcu; have HV47_u := Aside0.mk hCu; clear hCu hr hcu; have HB47 := Aside0.mk (below_step HB46.out hb); have BK47_gx := Aside0.mk (blk_below BK46_gx.out hb); have BK47_gr := Aside0.mk (blk_below BK46_gr.out hb); have BK47_gm := Aside0.mk (blk_below BK46_gm.out hb); have HR47_e := Aside0.mk (Kd.R_below HR46_e.out hb); have HR47_q := Aside0.mk (Kd.R_below HR46_q.out hb); clear hb; clear hc46_gx_0 hc46_gx_7; have hc47_gx_0 : w47.cell? ⟨gx, 0, none⟩ = some (.int .i64 a1_0) := (blk_cell BK47_gx.out 0).trans rfl; have hc47_gx_7 : w47.cell? ⟨gx, 7, none⟩ = some (.slice Aq t8.length cq) := (blk_cell BK47_gx.out 7).trans rfl) | ((with_reducible refine gate_store (t := 82) (p := 4) rfl ?_); refine put_event (t := 82) (x := ?xo84) (y := ?yo85) (off := 0) ?hg ?hn ?ho [.int .i64 u1, .int .i64 u2, .int .i64 u3, .int .i64 u4, .int .i64 u5, .bool u6, .int .i64 u7, .slice Au u8.length cu] BK47_gx.out ?hx ?hy ?ht ?hf rfl #[.int .i64 u1, .int .i64 u2, .int .i64 u3, .int .i64 u4, .int .i64 u5, .bool u6, .int .i64 u7, .slice Au u8.length cu] ?hcs ?_; (case ho => rfl); (case hg => rfl); (case hn => rfl); (case hx => rfl); (case hy => rfl); (case ht => kernel_rfl); (case hf => exact Nat.le_of_ble_eq_true rfl); (case hcs => rfl); intro w48 hbox hp; have HB48 := Aside0.mk (HB47.out.trans (hp.below.mono GE_gx.out)); have BK48_gx := Aside0.mk hbox; have BK48_gr := Aside0.mk (hp.blk BK47_gr.out NE_gr_gx.out); have BK48_gm := Aside0.mk (hp.blk BK47_gm.out NE_gm_gx.out); have HR48_e := Aside0.mk (R_put HR47_e.out BK47_gx.out (by decide) hp); have HR48_q := Aside0.mk (R_put HR47_q.out BK47_gx.out (by decide) hp); have HR48_u := Aside0.mk (R_put HL47_u.out BK47_gx.out (by decide) hp); clear hbox hp; clear hc47_gx_0 hc47_gx_7; have hc48_gx_0 : w48.cell? ⟨gx, 0, none⟩ = some (.int .i64 u1) := (blk_cell BK48_gx.out 0).trans rfl; have hc48_gx_7 : w48.cell? ⟨gx, 7, none⟩ = some (.slice Au u8.length cu) := (blk_cell BK48_gx.out 7).trans rfl) | ((with_reducible refine gate_dst (N := 95) rfl ?_); refine load_event ?hg (t := 82) (x := ?xl86) ?ho (off := 0) [.int .i64 u1, .int .i64 u2, .int .i64 u3, .int .i64 u4, .int .i64 u5, .bool u6, .int .i64 u7, .slice Au u8.length cu] BK48_gx.out ?hx ?hs Tryd.underlying82 rfl ?ht ?_; (case ho => rfl); (case hg => rfl); (case hx => rfl); (case hs => rfl); (case ht => kernel_rfl)) | ((with_reducible refine gate_store (t := 82) (p := 6) rfl ?_); refine put_event (t := 82) (x := ?xo87) (y := ?yo88) (off := 0) ?hg ?hn ?ho [.int .i64 u1, .int .i64 u2, .int .i64 u3, .int .i64 u4, .int .i64 u5, .bool u6, .int .i64 u7, .slice Au u8.length cu] BK48_gr.out ?hx ?hy ?ht ?hf rfl #[.int .i64 u1, .int .i64 u2, .int .i64 u3, .int .i64 u4, .int .i64 u5, .bool u6, .int .i64 u7, .slice Au u8.length cu] ?hcs ?_; (case ho => rfl); (case hg => rfl); (case hn => rfl); (case hx => rfl); (case hy => rfl); (case ht => kernel_rfl); (case hf => exact Nat.le_of_ble_eq_true rfl); (case hcs => rfl); intro w49 hbox hp; have HB49 := Aside0.mk (HB48.out.trans (hp.below.mono GE_gr.out)); have BK49_gx := Aside0.mk (hp.blk BK48_gx.out NE_gx_gr.out); have BK49_gr := Aside0.mk hbox; have BK49_gm := Aside0.mk (hp.blk BK48_gm.out NE_gm_gr.out); have HR49_e := Aside0.mk (R_put HR48_e.out BK48_gr.out (by decide) hp); have HR49_q := Aside0.mk (R_put HR48_q.out BK48_gr.out (by decide) hp); have HR49_u := Aside0.mk (R_put HR48_u.out BK48_gr.out (by decide) hp); clear hbox hp; clear hc48_gx_0 hc48_gx_7; have hc49_gx_0 : w49.cell? ⟨gx, 0, none⟩ = some (.int .i64 u1) := (blk_cell BK49_gx.out 0).trans rfl; have hc49_gx_7 : w49.cell? ⟨gx, 7, none⟩ = some (.slice Au u8.length cu) := (blk_cell BK49_gx.out 7).trans rfl))
   refine bodyPost_ret (results_ctt rfl _ _ gr 82 #[.int .i64 u1, .int .i64 u2, .int .i64 u3, .int .i64 u4, .int .i64 u5, .bool u6, .int .i64 u7, .slice Au u8.length cu] (0, 0) _ rfl BK49_gr.out Tryd.underlying82 rfl (by kernel_rfl)) rfl ?_
   exact ⟨_, _, rfl, HR49_u.out, HR49_e.out, HB49.out⟩
  | false =>
   rw [if_neg (by decide)] at h
   simp only [Option.some.injEq, Prod.mk.injEq] at h
   obtain ⟨rfl, rfl, rfl, rfl, rfl, rfl, rfl, rfl, rfl, rfl⟩ := h
   have hc42_gx_0 : w42.cell? ⟨gx, 0, none⟩ = some (.int .i64 a1_0) := (blk_cell BK42_gx.out 0).trans rfl
   have hc42_gx_7 : w42.cell? ⟨gx, 7, none⟩ = some (.slice A1_7 l1_7.length c1_7) := (blk_cell BK42_gx.out 7).trans rfl
   go_wp2_with (first | ((with_reducible refine gate_dst (N := 79) rfl ?_); refine load_event ?hg (t := 57) (x := ?xl89) ?ho (off := 0) [.int .i64 s1, .int .i64 s2] BK42_gm.out ?hx ?hs Tryd.underlying57 rfl ?ht ?_; (case ho => rfl); (case hg => rfl); (case hx => rfl); (case hs => rfl); (case ht => kernel_rfl)) | ((with_reducible refine gate_store (t := 57) (p := 80) rfl ?_); refine put_event (t := 57) (x := ?xo90) (y := ?yo91) (off := 3) ?hg ?hn ?ho [.int .i64 s1, .int .i64 s2] BK42_gx.out ?hx ?hy ?ht ?hf rfl #[.int .i64 a1_0, .int .i64 a1_1, .int .i64 a1_2, .int .i64 s1, .int .i64 s2, .bool a1_5, .int .i64 a1_6, .slice A1_7 l1_7.length c1_7] ?hcs ?_; (case ho => rfl); (case hg => rfl); (case hn => rfl); (case hx => rfl); (case hy => rfl); (case ht => kernel_rfl); (case hf => exact Nat.le_of_ble_eq_true rfl); (case hcs => rfl); intro w43 hbox hp; have HB43 := Aside0.mk (HB42.out.trans (hp.below.mono GE_gx.out)); have BK43_gx := Aside0.mk hbox; have BK43_gr := Aside0.mk (hp.blk BK42_gr.out NE_gr_gx.out); have BK43_gm := Aside0.mk (hp.blk BK42_gm.out NE_gm_gx.out); have HR43_e := Aside0.mk (R_put HE42.out BK42_gx.out (by decide) hp); clear hbox hp; clear hc42_gx_0 hc42_gx_7; have hc43_gx_0 : w43.cell? ⟨gx, 0, none⟩ = some (.int .i64 a1_0) := (blk_cell BK43_gx.out 0).trans rfl; have hc43_gx_7 : w43.cell? ⟨gx, 7, none⟩ = some (.slice A1_7 l1_7.length c1_7) := (blk_cell BK43_gx.out 7).trans rfl) | (go_at_call 86; refine (api_Cell_86.calls A1_7 c1_7 l1_7 t8 _ (Kd.C_below HR1_7.out HB43.out) HC1_7.out HK.out).mono ?_; rintro e_ w44 ⟨v0_, rfl, hr, hb⟩; obtain ⟨Aq, cq, rfl, hcq, hCq⟩ := Kd.R_reads hr; have HL44_q := Aside0.mk (Kd.R_lower hr (below_size HB43.out)); have HC_q := Aside0.mk hcq; have HV44_q := Aside0.mk hCq; clear hCq hr hcq; have HB44 := Aside0.mk (below_step HB43.out hb); have BK44_gx := Aside0.mk (blk_below BK43_gx.out hb); have BK44_gr := Aside0.mk (blk_below BK43_gr.out hb); have BK44_gm := Aside0.mk (blk_below BK43_gm.out hb); have HR44_e := Aside0.mk (Kd.R_below HR43_e.out hb); clear hb; clear hc43_gx_0 hc43_gx_7; have hc44_gx_0 : w44.cell? ⟨gx, 0, none⟩ = some (.int .i64 a1_0) := (blk_cell BK44_gx.out 0).trans rfl; have hc44_gx_7 : w44.cell? ⟨gx, 7, none⟩ = some (.slice A1_7 l1_7.length c1_7) := (blk_cell BK44_gx.out 7).trans rfl) | ((with_reducible refine gate_store (t := 35) (p := 84) rfl ?_); refine put_event (t := 35) (x := ?xo92) (y := ?yo93) (off := 7) ?hg ?hn ?ho [.slice Aq t8.length cq] BK44_gx.out ?hx ?hy ?ht ?hf rfl #[.int .i64 a1_0, .int .i64 a1_1, .int .i64 a1_2, .int .i64 s1, .int .i64 s2, .bool a1_5, .int .i64 a1_6, .slice Aq t8.length cq] ?hcs ?_; (case ho => rfl); (case hg => rfl); (case hn => rfl); (case hx => rfl); (case hy => rfl); (case ht => kernel_rfl); (case hf => exact Nat.le_of_ble_eq_true rfl); (case hcs => rfl); intro w45 hbox hp; have HB45 := Aside0.mk (HB44.out.trans (hp.below.mono GE_gx.out)); have BK45_gx := Aside0.mk hbox; have BK45_gr := Aside0.mk (hp.blk BK44_gr.out NE_gr_gx.out); have BK45_gm := Aside0.mk (hp.blk BK44_gm.out NE_gm_gx.out); have HR45_e := Aside0.mk (R_put HR44_e.out BK44_gx.out (by decide) hp); have HR45_q := Aside0.mk (R_put HL44_q.out BK44_gx.out (by decide) hp); clear hbox hp; clear hc44_gx_0 hc44_gx_7; have hc45_gx_0 : w45.cell? ⟨gx, 0, none⟩ = some (.int .i64 a1_0) := (blk_cell BK45_gx.out 0).trans rfl; have hc45_gx_7 : w45.cell? ⟨gx, 7, none⟩ = some (.slice Aq t8.length cq) := (blk_cell BK45_gx.out 7).trans rfl) | ((with_reducible refine gate_dst (N := 95) rfl ?_); refine load_event ?hg (t := 82) (x := ?xl94) ?ho (off := 0) [.int .i64 a1_0, .int .i64 a1_1, .int .i64 a1_2, .int .i64 s1, .int .i64 s2, .bool a1_5, .int .i64 a1_6, .slice Aq t8.length cq] BK45_gx.out ?hx ?hs Tryd.underlying82 rfl ?ht ?_; (case ho => rfl); (case hg => rfl); (case hx => rfl); (case hs => rfl); (case ht => kernel_rfl)) | ((with_reducible refine gate_store (t := 82) (p := 6) rfl ?_); refine put_event (t := 82) (x := ?xo95) (y := ?yo96) (off := 0) ?hg ?hn ?ho [.int .i64 a1_0, .int .i64 a1_1, .int .i64 a1_2, .int .i64 s1, .int .i64 s2, .bool a1_5, .int .i64 a1_6, .slice Aq t8.length cq] BK45_gr.out ?hx ?hy ?ht ?hf rfl #[.int .i64 a1_0, .int .i64 a1_1, .int .i64 a1_2, .int .i64 s1, .int .i64 s2, .bool a1_5, .int .i64 a1_6, .slice Aq t8.length cq] ?hcs ?_; (case ho => rfl); (case hg => rfl); (case hn => rfl); (case hx => rfl); (case hy => rfl); (case ht => kernel_rfl); (case hf => exact Nat.le_of_ble_eq_true rfl); (case hcs => rfl); intro w46 hbox hp; have HB46 := Aside0.mk (HB45.out.trans (hp.below.mono GE_gr.out)); have BK46_gx := Aside0.mk (hp.blk BK45_gx.out NE_gx_gr.out); have BK46_gr := Aside0.mk hbox; have BK46_gm := Aside0.mk (hp.blk BK45_gm.out NE_gm_gr.out); have HR46_e := Aside0.mk (R_put HR45_e.out BK45_gr.out (by decide) hp); have HR46_q := Aside0.mk (R_put HR45_q.out BK45_gr.out (by decide) hp); clear hbox hp; clear hc45_gx_0 hc45_gx_7; have hc46_gx_0 : w46.cell? ⟨gx, 0, none⟩ = some (.int .i64 a1_0) := (blk_cell BK46_gx.out 0).trans rfl; have hc46_gx_7 : w46.cell? ⟨gx, 7, none⟩ = some (.slice Aq t8.length cq) := (blk_cell BK46_gx.out 7).trans rfl))
   refine bodyPost_ret (results_ctt rfl _ _ gr 82 #[.int .i64 a1_0, .int .i64 a1_1, .int .i64 a1_2, .int .i64 s1, .int .i64 s2, .bool a1_5, .int .i64 a1_6, .slice Aq t8.length cq] (0, 0) _ rfl BK46_gr.out Tryd.underlying82 rfl (by kernel_rfl)) rfl ?_
   exact ⟨_, _, rfl, HR46_q.out, HR46_e.out, HB46.out⟩
 rw [if_neg q3] at h
 obtain ⟨⟨t1, t2, t3, t4, t5, t6, t7, t8, t9⟩, hX, h⟩ := Option.bind_eq_some_iff.mp h
 simp only [Option.some.injEq, Prod.mk.injEq] at h
 obtain ⟨rfl, rfl, rfl, rfl, rfl, rfl, rfl, rfl, rfl, rfl⟩ := h
 have HX := Aside0.mk hX
 clear hX q2
 have q3a : (s5 == 0) = false := beq_eq_false_iff_ne.mpr q3
 have q3b : (s5 != 0) = true := bne_iff_ne.mpr q3
 clear q3
 go_wp2_with (first | ((with_reducible refine gate_dst (N := 72) rfl ?_); refine load_event ?hg (t := 82) (x := ?xl97) ?ho (off := 0) [.int .i64 a1_0, .int .i64 a1_1, .int .i64 a1_2, .int .i64 a1_3, .int .i64 a1_4, .bool a1_5, .int .i64 a1_6, .slice A1_7 l1_7.length c1_7] BK42_gx.out ?hx ?hs Tryd.underlying82 rfl ?ht ?_; (case ho => rfl); (case hg => rfl); (case hx => rfl); (case hs => rfl); (case ht => kernel_rfl)) | (go_at_call 89; refine (phase_Fail.calls a1_0 a1_1 a1_2 a1_3 a1_4 a1_5 a1_6 A1_7 c1_7 l1_7 s5 t1 t2 t3 t4 t5 t6 t7 t8 t9 _ (Kd.C_below HR1_7.out HB42.out) HC1_7.out HX.out).mono ?_; rintro e_ w43 ⟨v7_, rfl, hr, hb⟩; obtain ⟨Aq, cq, rfl, hcq, hCq⟩ := Kd.R_reads hr; have HL43_q := Aside0.mk (Kd.R_lower hr (below_size HB42.out)); have HC_q := Aside0.mk hcq; have HV43_q := Aside0.mk hCq; clear hCq hr hcq; have HB43 := Aside0.mk (below_step HB42.out hb); have BK43_gx := Aside0.mk (blk_below BK42_gx.out hb); have BK43_gr := Aside0.mk (blk_below BK42_gr.out hb); have BK43_gm := Aside0.mk (blk_below BK42_gm.out hb); have HR43_e := Aside0.mk (Kd.R_below HE42.out hb); clear hb) | ((with_reducible refine gate_dst (N := 16) rfl ?_); refine box_event ?hg (N := 16) ?hd (cs := #[.int .i64 0, .int .i64 0, .int .i64 0, .int .i64 0, .int .i64 0, .bool false, .int .i64 0, .slice none 0 0]) (t := 82) ?hr ?_; (case hd => rfl); (case hg => rfl); (case hr => first | (go_simp; done) | (go_simp; rfl)); intro gf hg w44 hbox hb; have GE_gf : Aside0 (w.heap.size ≤ gf) := ⟨by rw [hg]; exact below_size HB43.out⟩; have NE_gx_gf : Aside0 (gx ≠ gf) := ⟨by have h_ := blk_lt BK43_gx.out; omega⟩; have NE_gf_gx : Aside0 (gf ≠ gx) := ⟨fun h_ => NE_gx_gf.out h_.symm⟩; have NE_gr_gf : Aside0 (gr ≠ gf) := ⟨by have h_ := blk_lt BK43_gr.out; omega⟩; have NE_gf_gr : Aside0 (gf ≠ gr) := ⟨fun h_ => NE_gr_gf.out h_.symm⟩; have NE_gm_gf : Aside0 (gm ≠ gf) := ⟨by have h_ := blk_lt BK43_gm.out; omega⟩; have NE_gf_gm : Aside0 (gf ≠ gm) := ⟨fun h_ => NE_gm_gf.out h_.symm⟩; have HB44 := Aside0.mk (below_step HB43.out hb); have BK44_gx := Aside0.mk (blk_below BK43_gx.out hb); have BK44_gr := Aside0.mk (blk_below BK43_gr.out hb); have BK44_gm := Aside0.mk (blk_below BK43_gm.out hb); have HR44_e := Aside0.mk (Kd.R_below HR43_e.out hb); have HR44_q := Aside0.mk (Kd.R_below HL43_q.out hb); have BK44_gf := Aside0.mk hbox; clear hbox hb hg) | ((with_reducible refine gate_store (t := 82) (p := 16) rfl ?_); refine put_event (t := 82) (x := ?xo98) (y := ?yo99) (off := 0) ?hg ?hn ?ho [.int .i64 t1, .int .i64 t2, .int .i64 t3, .int .i64 t4, .int .i64 t5, .bool t6, .int .i64 t7, .slice Aq t8.length cq] BK44_gf.out ?hx ?hy ?ht ?hf rfl #[.int .i64 t1, .int .i64 t2, .int .i64 t3, .int .i64 t4, .int .i64 t5, .bool t6, .int .i64 t7, .slice Aq t8.length cq] ?hcs ?_; (case ho => rfl); (case hg => rfl); (case hn => rfl); (case hx => rfl); (case hy => rfl); (case ht => kernel_rfl); (case hf => exact Nat.le_of_ble_eq_true rfl); (case hcs => rfl); intro w45 hbox hp; have HB45 := Aside0.mk (HB44.out.trans (hp.below.mono GE_gf.out)); have BK45_gx := Aside0.mk (hp.blk BK44_gx.out NE_gx_gf.out); have BK45_gr := Aside0.mk (hp.blk BK44_gr.out NE_gr_gf.out); have BK45_gm := Aside0.mk (hp.blk BK44_gm.out NE_gm_gf.out); have BK45_gf := Aside0.mk hbox; have HR45_e := Aside0.mk (R_put HR44_e.out BK44_gf.out (by decide) hp); have HR45_q := Aside0.mk (R_put HR44_q.out BK44_gf.out (by decide) hp); clear hbox hp) | ((with_reducible refine gate_dst (N := 77) rfl ?_); refine load_event ?hg (t := 82) (x := ?xl100) ?ho (off := 0) [.int .i64 t1, .int .i64 t2, .int .i64 t3, .int .i64 t4, .int .i64 t5, .bool t6, .int .i64 t7, .slice Aq t8.length cq] BK45_gf.out ?hx ?hs Tryd.underlying82 rfl ?ht ?_; (case ho => rfl); (case hg => rfl); (case hx => rfl); (case hs => rfl); (case ht => kernel_rfl)) | ((with_reducible refine gate_store (t := 82) (p := 6) rfl ?_); refine put_event (t := 82) (x := ?xo101) (y := ?yo102) (off := 0) ?hg ?hn ?ho [.int .i64 t1, .int .i64 t2, .int .i64 t3, .int .i64 t4, .int .i64 t5, .bool t6, .int .i64 t7, .slice Aq t8.length cq] BK45_gr.out ?hx ?hy ?ht ?hf rfl #[.int .i64 t1, .int .i64 t2, .int .i64 t3, .int .i64 t4, .int .i64 t5, .bool t6, .int .i64 t7, .slice Aq t8.length cq] ?hcs ?_; (case ho => rfl); (case hg => rfl); (case hn => rfl); (case hx => rfl); (case hy => rfl); (case ht => kernel_rfl); (case hf => exact Nat.le_of_ble_eq_true rfl); (case hcs => rfl); intro w46 hbox hp; have HB46 := Aside0.mk (HB45.out.trans (hp.below.mono GE_gr.out)); have BK46_gx := Aside0.mk (hp.blk BK45_gx.out NE_gx_gr.out); have BK46_gr := Aside0.mk hbox; have BK46_gm := Aside0.mk (hp.blk BK45_gm.out NE_gm_gr.out); have BK46_gf := Aside0.mk (hp.blk BK45_gf.out NE_gf_gr.out); have HR46_e := Aside0.mk (R_put HR45_e.out BK45_gr.out (by decide) hp); have HR46_q := Aside0.mk (R_put HR45_q.out BK45_gr.out (by decide) hp); clear hbox hp))
 refine bodyPost_ret (results_ctt rfl _ _ gr 82 #[.int .i64 t1, .int .i64 t2, .int .i64 t3, .int .i64 t4, .int .i64 t5, .bool t6, .int .i64 t7, .slice Aq t8.length cq] (0, 0) _ rfl BK46_gr.out Tryd.underlying82 rfl (by kernel_rfl)) rfl ?_
 exact ⟨_, _, rfl, HR46_q.out, Kd.R_nil _ _ _ _ _, HB46.out⟩
set_option maxHeartbeats 8000000 in
theorem phase_Scan.calls (k : Nat) (A0_0 : Option Addr) (c0_0 : Nat) (l0_0 : List (S67)) (A0_1 : Option Addr) (c0_1 : Nat) (l0_1 : List (S67)) (A0_2 : Option Addr) (c0_2 : Nat) (l0_2 : List (S67)) (A0_3 : Option Addr) (c0_3 : Nat) (l0_3 : List (S67)) (A0_4 : Option Addr) (c0_4 : Nat) (l0_4 : List (S67)) (a1_0 : Int) (a1_1 : Int) (a1_2 : Int) (a1_3 : Int) (a1_4 : Int) (a1_5 : Bool) (a1_6 : Int) (A1_7 : Option Addr) (c1_7 : Nat) (l1_7 : List (S69)) (A2 : Option Addr) (c2 : Nat) (l2 : List (S69)) (r1 : Int) (r2 : Int) (r3 : Int) (r4 : Int) (r5 : Int) (r6 : Bool) (r7 : Int) (r8 : List (S69)) (r9 : List (S72)) (r10 : Int) (w : World) (hr0_0 : Kd.C k67 w A0_0 l0_0.length l0_0) (hc0_0 : l0_0.length ≤ c0_0) (hr0_1 : Kd.C k67 w A0_1 l0_1.length l0_1) (hc0_1 : l0_1.length ≤ c0_1) (hr0_2 : Kd.C k67 w A0_2 l0_2.length l0_2) (hc0_2 : l0_2.length ≤ c0_2) (hr0_3 : Kd.C k67 w A0_3 l0_3.length l0_3) (hc0_3 : l0_3.length ≤ c0_3) (hr0_4 : Kd.C k67 w A0_4 l0_4.length l0_4) (hc0_4 : l0_4.length ≤ c0_4) (hr1_7 : Kd.C k69 w A1_7 l1_7.length l1_7) (hc1_7 : l1_7.length ≤ c1_7) (hr2 : Kd.C k69 w A2 l2.length l2) (hc2 : l2.length ≤ c2) (h : phase_Scan.f k l0_0 l0_1 l0_2 l0_3 l0_4 a1_0 a1_1 a1_2 a1_3 a1_4 a1_5 a1_6 l1_7 l2 = some (r1, r2, r3, r4, r5, r6, r7, r8, r9, r10)) (hT : UT w) :
    Calls Tryd.prog 56 #[.agg #[.slice A0_0 l0_0.length c0_0, .slice A0_1 l0_1.length c0_1, .slice A0_2 l0_2.length c0_2, .slice A0_3 l0_3.length c0_3, .slice A0_4 l0_4.length c0_4], .agg #[.int .i64 a1_0, .int .i64 a1_1, .int .i64 a1_2, .int .i64 a1_3, .int .i64 a1_4, .bool a1_5, .int .i64 a1_6, .slice A1_7 l1_7.length c1_7], .slice A2 l2.length c2] w fun e w' => ∃ v7_ v8_ : Value, e = .returned (.tuple #[.agg #[.int .i64 r1, .int .i64 r2, .int .i64 r3, .int .i64 r4, .int .i64 r5, .bool r6, .int .i64 r7, v7_], v8_, .int .i64 r10]) ∧ Kd.R k69 69 w' w.heap.size (fun _ => True) v7_ r8 ∧ Kd.R k72 72 w' w.heap.size (fun _ => True) v8_ r9 ∧ Below w.heap.size w w' := by
  unfold phase_Scan.f at h
  obtain ⟨ok, hR, h⟩ := Option.bind_eq_some_iff.mp h
  cases ok with
  | false =>
    rw [if_neg (by decide)] at h
    simp only [Option.some.injEq, Prod.mk.injEq] at h
    obtain ⟨rfl, rfl, rfl, rfl, rfl, rfl, rfl, rfl, rfl, rfl⟩ := h
    exact Scan_bad k A0_0 c0_0 l0_0 A0_1 c0_1 l0_1 A0_2 c0_2 l0_2 A0_3 c0_3 l0_3 A0_4 c0_4 l0_4 a1_0 a1_1 a1_2 a1_3 a1_4 a1_5 a1_6 A1_7 c1_7 l1_7 A2 c2 l2 w hr0_0 hc0_0 hr0_1 hc0_1 hr0_2 hc0_2 hr0_3 hc0_3 hr0_4 hc0_4 hr1_7 hc1_7 hr2 hc2 hR hT
  | true =>
    rw [if_pos rfl] at h
    by_cases c1 : a1_0 = 2
    · rw [if_pos c1] at h
      obtain ⟨⟨t1, t2, t3, t4, t5, t6, t7, t8⟩, hI, h⟩ := Option.bind_eq_some_iff.mp h
      simp only [Option.some.injEq, Prod.mk.injEq] at h
      obtain ⟨rfl, rfl, rfl, rfl, rfl, rfl, rfl, rfl, rfl, rfl⟩ := h
      exact Scan_two k A0_0 c0_0 l0_0 A0_1 c0_1 l0_1 A0_2 c0_2 l0_2 A0_3 c0_3 l0_3 A0_4 c0_4 l0_4 a1_0 a1_1 a1_2 a1_3 a1_4 a1_5 a1_6 A1_7 c1_7 l1_7 A2 c2 l2 t1 t2 t3 t4 t5 t6 t7 t8 w hr0_0 hc0_0 hr0_1 hc0_1 hr0_2 hc0_2 hr0_3 hc0_3 hr0_4 hc0_4 hr1_7 hc1_7 hr2 hc2 hR c1 hI hT
    rw [if_neg c1] at h
    obtain ⟨ac, hA, h⟩ := Option.bind_eq_some_iff.mp h
    cases ac with
    | false =>
      rw [if_neg (by decide)] at h
      obtain ⟨t8, hK, h⟩ := Option.bind_eq_some_iff.mp h
      simp only [Option.some.injEq, Prod.mk.injEq] at h
      obtain ⟨rfl, rfl, rfl, rfl, rfl, rfl, rfl, rfl, rfl, rfl⟩ := h
      exact Scan_rest k A0_0 c0_0 l0_0 A0_1 c0_1 l0_1 A0_2 c0_2 l0_2 A0_3 c0_3 l0_3 A0_4 c0_4 l0_4 a1_0 a1_1 a1_2 a1_3 a1_4 a1_5 a1_6 A1_7 c1_7 l1_7 A2 c2 l2 t8 w hr0_0 hc0_0 hr0_1 hc0_1 hr0_2 hc0_2 hr0_3 hc0_3 hr0_4 hc0_4 hr1_7 hc1_7 hr2 hc2 hR c1 hA hK hT
    | true =>
      rw [if_pos rfl] at h
      obtain ⟨⟨lv, okv⟩, hF, h⟩ := Option.bind_eq_some_iff.mp h
      simp only [] at h
      by_cases c2q : a1_0 = 1
      · rw [if_pos c2q] at h
        exact Scan_run k A0_0 c0_0 l0_0 A0_1 c0_1 l0_1 A0_2 c0_2 l0_2 A0_3 c0_3 l0_3 A0_4 c0_4 l0_4 a1_0 a1_1 a1_2 a1_3 a1_4 a1_5 a1_6 A1_7 c1_7 l1_7 A2 c2 l2 lv okv r1 r2 r3 r4 r5 r6 r7 r8 r9 r10 w hr0_0 hc0_0 hr0_1 hc0_1 hr0_2 hc0_2 hr0_3 hc0_3 hr0_4 hc0_4 hr1_7 hc1_7 hr2 hc2 hR c1 hA hF h c2q hT
      rw [if_neg c2q] at h
      exact Scan_oth k A0_0 c0_0 l0_0 A0_1 c0_1 l0_1 A0_2 c0_2 l0_2 A0_3 c0_3 l0_3 A0_4 c0_4 l0_4 a1_0 a1_1 a1_2 a1_3 a1_4 a1_5 a1_6 A1_7 c1_7 l1_7 A2 c2 l2 lv okv r1 r2 r3 r4 r5 r6 r7 r8 r9 r10 w hr0_0 hc0_0 hr0_1 hc0_1 hr0_2 hc0_2 hr0_3 hc0_3 hr0_4 hc0_4 hr1_7 hc1_7 hr2 hc2 hR c1 hA hF h c2q hT
end Go.Proofs.YtiaccdaeomaogaaDoor.F
