/- Texts of one claim, slimmed and merged by slim.py. -/
import Derived.Test.YtiaccdaeomaogaaDoorA4
import Derived.Test.YtiaccdaeomaogaaDoorA6
import Derived.Test.YtiaccdaeomaogaaDoorA23
import Derived.Test.YtiaccdaeomaogaaDoorA24
import Derived.Test.YtiaccdaeomaogaaDoorA25
import Derived.Test.YtiaccdaeomaogaaDoorA26
import Derived.Test.YtiaccdaeomaogaaDoorA27
import Derived.Test.YtiaccdaeomaogaaDoorA28
namespace Go.Proofs.YtiaccdaeomaogaaDoor.F
open Go.RowKit Go.Proofs.YtiaccdaeomaogaaDoorW.PrintWords Go.Proofs.YtiaccdaeomaogaaDoorW.PrintLast Go.Proofs.YtiaccdaeomaogaaDoorW.PrintMore
attribute [local go_sem] max2_int min2_int max_two min_two max_three min_three max_four min_four   -- for this text's walks alone
set_option linter.unusedVariables false
set_option linter.unusedSimpArgs false
def malthouselaw12_awake.f (k : Nat)  : Option (Bool) := (malthouselaw12_sample.f).bind fun bt101 => ((phase_Start.f 0 0 0 0 0 false 0 ([] : List (S69)) ([] : List (S69))).bind fun bt117 => ((phase_Scan.f k bt101.1 bt101.2.1 bt101.2.2.1 bt101.2.2.2.1 bt101.2.2.2.2 bt117.1 bt117.2.1 bt117.2.2.1 bt117.2.2.2.1 bt117.2.2.2.2.1 bt117.2.2.2.2.2.1 bt117.2.2.2.2.2.2.1 bt117.2.2.2.2.2.2.2.1 ([] : List (S69))).bind fun bt129 => ((phase_Command.f k bt129.1 bt129.2.1 bt129.2.2.1 bt129.2.2.2.1 bt129.2.2.2.2.1 bt129.2.2.2.2.2.1 bt129.2.2.2.2.2.2.1 bt129.2.2.2.2.2.2.2.1 3).bind fun bt143 => ((phase_Scan.f k bt101.1 bt101.2.1 bt101.2.2.1 bt101.2.2.2.1 bt101.2.2.2.2 bt143.1 bt143.2.1 bt143.2.2.1 bt143.2.2.2.1 bt143.2.2.2.2.1 bt143.2.2.2.2.2.1 bt143.2.2.2.2.2.2.1 bt143.2.2.2.2.2.2.2.1 ([] : List (S69))).bind fun bt155 => (if bt117.2.2.2.2.2.2.2.2 = 0 then (if bt129.2.2.2.2.2.2.2.2.2 = 0 then (if bt143.2.2.2.2.2.2.2.2 = 0 then (if bt155.2.2.2.2.2.2.2.2.2 = 0 then (if (bt129.2.2.2.2.2.2.2.2.1.length : Int) = 1 then (if 0 < (bt129.2.2.2.2.2.2.2.2.1.length : Int) then (if ((rd_T72 bt129.2.2.2.2.2.2.2.2.1 0).f3) = 1 then (if bt129.1 = 1 then (if bt129.2.1 = 1 then (if bt143.1 = 4 then (if bt155.1 = 5 then (if bt155.2.1 = 1 then ((phase_Check.f k bt101.1 bt101.2.1 bt101.2.2.1 bt101.2.2.2.1 bt101.2.2.2.2 (([(⟨#[118]⟩ : ByteArray)] : List ByteArray)) ([] : List ByteArray) (([(⟨#[116]⟩ : ByteArray)] : List ByteArray))).bind fun t177 => (some (t177 == 0))) else (some false)) else (some false)) else (some false)) else (some false)) else (some false)) else (some false)) else (none)) else (some false)) else (some false)) else (some false)) else (some false)) else (some false))))))
theorem malthouselaw12_awake.mono : ∀ k, LeO (malthouselaw12_awake.f k ) (malthouselaw12_awake.f (k + 1) ) := by
  intro  k
  unfold malthouselaw12_awake.f
  repeat' first
      | (with_reducible exact phase_Check.mono _ _ _ _ _ _ _ _ _)
      | (with_reducible exact phase_Command.mono _ _ _ _ _ _ _ _ _ _)
      | (with_reducible exact phase_Scan.mono _ _ _ _ _ _ _ _ _ _ _ _ _ _ _)
      | (with_reducible exact LeO.refl _)
      | (with_reducible exact LeO.none _)
      | (with_reducible refine LeO.ite ?_ ?_)
      | (with_reducible refine LeO.bind ?_ (fun _ => ?_))
      | exact phase_Check.mono _ _ _ _ _ _ _ _ _
      | exact phase_Command.mono _ _ _ _ _ _ _ _ _ _
      | exact phase_Scan.mono _ _ _ _ _ _ _ _ _ _ _ _ _ _ _
      | exact LeO.none _
      | refine LeO.ite ?_ ?_
      | refine LeO.bind ?_ (fun _ => ?_)
set_option maxHeartbeats 8000000 in
set_option maxRecDepth 100000 in
theorem malthouselaw12_awake.calls (k : Nat)  (r : Bool) (w : World) (h : malthouselaw12_awake.f k  = some r) (hT : UT w) (hR : r = true) :
    Calls Tryd.prog 48 #[] w fun e w' => e = .returned (.bool r) ∧ Below w.heap.size w w' := by
  unfold malthouselaw12_awake.f at h
  obtain ⟨⟨p0, p1, p2, p3, p4⟩, h1, g1⟩ := Option.bind_eq_some_iff.mp h
  clear h
  obtain ⟨⟨x1, x2, x3, x4, x5, x6, x7, x8, x9⟩, h2, g2⟩ := Option.bind_eq_some_iff.mp g1
  clear g1
  obtain ⟨⟨y1, y2, y3, y4, y5, y6, y7, y8, yw, ye⟩, h3, g3⟩ := Option.bind_eq_some_iff.mp g2
  clear g2
  obtain ⟨⟨b1, b2, b3, b4, b5, b6, b7, b8, b9⟩, h4, g4⟩ := Option.bind_eq_some_iff.mp g3
  clear g3
  obtain ⟨⟨z1, z2, z3, z4, z5, z6, z7, z8, zw, ze⟩, h5, g5⟩ := Option.bind_eq_some_iff.mp g4
  clear g4
  have h := g5
  clear g5
  simp only [] at h1 h2 h3 h4 h5 h
  by_cases q : x9 = 0
  case neg => rw [if_neg q] at h; exact absurd ((Option.some.inj h).trans hR) (by decide)
  rw [if_pos q] at h
  subst q
  by_cases q : ye = 0
  case neg => rw [if_neg q] at h; exact absurd ((Option.some.inj h).trans hR) (by decide)
  rw [if_pos q] at h
  subst q
  by_cases q : b9 = 0
  case neg => rw [if_neg q] at h; exact absurd ((Option.some.inj h).trans hR) (by decide)
  rw [if_pos q] at h
  subst q
  by_cases q : ze = 0
  case neg => rw [if_neg q] at h; exact absurd ((Option.some.inj h).trans hR) (by decide)
  rw [if_pos q] at h
  subst q
  by_cases q : (yw.length : Int) = 1
  case neg => rw [if_neg q] at h; exact absurd ((Option.some.inj h).trans hR) (by decide)
  rw [if_pos q] at h
  have l1a : ((yw.length : Int) == 1) = true := beq_iff_eq.mpr q
  have hlen : 0 < (yw.length : Int) := by omega
  clear q
  rw [if_pos hlen] at h
  by_cases q : (rd_T72 yw 0).f3 = 1
  case neg => rw [if_neg q] at h; exact absurd ((Option.some.inj h).trans hR) (by decide)
  rw [if_pos q] at h
  have f3a : ((rd_T72 yw 0).f3 == 1) = true := beq_iff_eq.mpr q
  clear q
  by_cases q : y1 = 1
  case neg => rw [if_neg q] at h; exact absurd ((Option.some.inj h).trans hR) (by decide)
  rw [if_pos q] at h
  subst q
  by_cases q : y2 = 1
  case neg => rw [if_neg q] at h; exact absurd ((Option.some.inj h).trans hR) (by decide)
  rw [if_pos q] at h
  subst q
  by_cases q : b1 = 4
  case neg => rw [if_neg q] at h; exact absurd ((Option.some.inj h).trans hR) (by decide)
  rw [if_pos q] at h
  subst q
  by_cases q : z1 = 5
  case neg => rw [if_neg q] at h; exact absurd ((Option.some.inj h).trans hR) (by decide)
  rw [if_pos q] at h
  subst q
  by_cases q : z2 = 1
  case neg => rw [if_neg q] at h; exact absurd ((Option.some.inj h).trans hR) (by decide)
  rw [if_pos q] at h
  subst q
  obtain ⟨ck, h6, g6⟩ := Option.bind_eq_some_iff.mp h
  clear h
  have h := g6
  clear g6
  have ec : (ck == 0) = true := (Option.some.inj h).trans hR
  obtain rfl : ck = 0 := beq_iff_eq.mp ec
  subst hR
  clear h ec
  have H1 := Aside0.mk h1
  have H2 := Aside0.mk h2
  have H3 := Aside0.mk h3
  have H4 := Aside0.mk h4
  have H5 := Aside0.mk h5
  have H6 := Aside0.mk h6
  have HT0 := Aside0.mk hT
  have hu82 := Tryd.underlying82
  have hu57 := Tryd.underlying57
  have hu80 := Tryd.underlying80
  clear h1 h2 h3 h4 h5 h6 hT
  go_enter Tryd.func48, Tryd.ntmps48
  go_upto_region 6 with (first | (go_at_call 79; refine (malthouselaw12_sample.calls p0 p1 p2 p3 p4 _ H1.out).mono ?_; rintro e_ wb ⟨v0, v1, v2, v3, v4, rfl, n0, n1, n2, n3, n4, hb⟩; obtain ⟨A0_0, c0_0, rfl, hc0_0, hC0_0⟩ := Kd.N_reads n0; obtain ⟨A0_1, c0_1, rfl, hc0_1, hC0_1⟩ := Kd.N_reads n1; obtain ⟨A0_2, c0_2, rfl, hc0_2, hC0_2⟩ := Kd.N_reads n2; obtain ⟨A0_3, c0_3, rfl, hc0_3, hC0_3⟩ := Kd.N_reads n3; obtain ⟨A0_4, c0_4, rfl, hc0_4, hC0_4⟩ := Kd.N_reads n4; have HW := Aside0.mk hb; have HB0 := Aside0.mk (Below.refl wb.heap.size wb); have HC0_0 := Aside0.mk hc0_0; have HC0_1 := Aside0.mk hc0_1; have HC0_2 := Aside0.mk hc0_2; have HC0_3 := Aside0.mk hc0_3; have HC0_4 := Aside0.mk hc0_4; have HR0_0 := Aside0.mk hC0_0; have HR0_1 := Aside0.mk hC0_1; have HR0_2 := Aside0.mk hC0_2; have HR0_3 := Aside0.mk hC0_3; have HR0_4 := Aside0.mk hC0_4; clear hb n0 n1 n2 n3 n4 hc0_0 hC0_0 hc0_1 hC0_1 hc0_2 hC0_2 hc0_3 hC0_3 hc0_4 hC0_4) | ((with_reducible refine gate_dst (N := 1) rfl ?_); refine box_event ?hg (N := 1) ?hd (cs := #[.slice none 0 0, .slice none 0 0, .slice none 0 0, .slice none 0 0, .slice none 0 0]) (t := 80) ?hr ?_; (case hd => rfl); (case hg => rfl); (case hr => first | (go_simp; done) | (go_simp; rfl)); intro gp hg w1 hbox hb; have GE_gp : Aside0 (wb.heap.size ≤ gp) := ⟨by rw [hg]; exact below_size HB0.out⟩; have HB1 := Aside0.mk (below_step HB0.out hb); have BK1_gp := Aside0.mk hbox; clear hbox hb hg) | ((with_reducible refine gate_store (t := 80) (p := 1) rfl ?_); refine put_event (t := 80) (x := ?xo103) (y := ?yo104) (off := 0) ?hg ?hn ?ho [.slice A0_0 p0.length c0_0, .slice A0_1 p1.length c0_1, .slice A0_2 p2.length c0_2, .slice A0_3 p3.length c0_3, .slice A0_4 p4.length c0_4] BK1_gp.out ?hx ?hy ?ht ?hf rfl #[.slice A0_0 p0.length c0_0, .slice A0_1 p1.length c0_1, .slice A0_2 p2.length c0_2, .slice A0_3 p3.length c0_3, .slice A0_4 p4.length c0_4] ?hcs ?_; (case ho => rfl); (case hg => rfl); (case hn => rfl); (case hx => rfl); (case hy => rfl); (case ht => kernel_rfl); (case hf => exact Nat.le_of_ble_eq_true rfl); (case hcs => rfl); intro w2 hbox hp; have HB2 := Aside0.mk (HB1.out.trans (hp.below.mono GE_gp.out)); have BK2_gp := Aside0.mk hbox; clear hbox hp) | (go_at_call 55; refine (phase_Start.calls 0 0 0 0 0 false 0 none 0 ([] : List (S69)) none 0 ([] : List (S69)) x1 x2 x3 x4 x5 x6 x7 x8 0 _ (Kd.C_nil _ _) (Nat.zero_le _) (Kd.C_nil _ _) (Nat.zero_le _) H2.out (UT.below HT0.out (below_step HW.out HB2.out))).mono ?_; rintro e_ w3 ⟨v7_, rfl, hr, hb⟩; obtain ⟨Ax, cx, rfl, hcx, hCx⟩ := Kd.R_reads hr; have HL3_x := Aside0.mk (Kd.R_lower hr (below_size HB2.out)); have HC_x := Aside0.mk hcx; have HV3_x := Aside0.mk hCx; clear hCx hr hcx; have HB3 := Aside0.mk (below_step HB2.out hb); have BK3_gp := Aside0.mk (blk_below BK2_gp.out hb); clear hb) | ((with_reducible refine gate_dst (N := 2) rfl ?_); refine box_event ?hg (N := 2) ?hd (cs := #[.int .i64 0, .int .i64 0, .int .i64 0, .int .i64 0, .int .i64 0, .bool false, .int .i64 0, .slice none 0 0]) (t := 82) ?hr ?_; (case hd => rfl); (case hg => rfl); (case hr => first | (go_simp; done) | (go_simp; rfl)); intro gx hg w4 hbox hb; have GE_gx : Aside0 (wb.heap.size ≤ gx) := ⟨by rw [hg]; exact below_size HB3.out⟩; have NE_gp_gx : Aside0 (gp ≠ gx) := ⟨by have h_ := blk_lt BK3_gp.out; omega⟩; have NE_gx_gp : Aside0 (gx ≠ gp) := ⟨fun h_ => NE_gp_gx.out h_.symm⟩; have HB4 := Aside0.mk (below_step HB3.out hb); have BK4_gp := Aside0.mk (blk_below BK3_gp.out hb); have HR4_x := Aside0.mk (Kd.R_below HL3_x.out hb); have BK4_gx := Aside0.mk hbox; clear hbox hb hg) | ((with_reducible refine gate_store (t := 82) (p := 2) rfl ?_); refine put_event (t := 82) (x := ?xo105) (y := ?yo106) (off := 0) ?hg ?hn ?ho [.int .i64 x1, .int .i64 x2, .int .i64 x3, .int .i64 x4, .int .i64 x5, .bool x6, .int .i64 x7, .slice Ax x8.length cx] BK4_gx.out ?hx ?hy ?ht ?hf rfl #[.int .i64 x1, .int .i64 x2, .int .i64 x3, .int .i64 x4, .int .i64 x5, .bool x6, .int .i64 x7, .slice Ax x8.length cx] ?hcs ?_; (case ho => rfl); (case hg => rfl); (case hn => rfl); (case hx => rfl); (case hy => rfl); (case ht => kernel_rfl); (case hf => exact Nat.le_of_ble_eq_true rfl); (case hcs => rfl); intro w5 hbox hp; have HB5 := Aside0.mk (HB4.out.trans (hp.below.mono GE_gx.out)); have BK5_gp := Aside0.mk (hp.blk BK4_gp.out NE_gp_gx.out); have BK5_gx := Aside0.mk hbox; have HR5_x := Aside0.mk (R_put HR4_x.out BK4_gx.out (by decide) hp); clear hbox hp) | ((with_reducible refine gate_dst (N := 18) rfl ?_); refine load_event ?hg (t := 80) (x := ?xl107) ?ho (off := 0) [.slice A0_0 p0.length c0_0, .slice A0_1 p1.length c0_1, .slice A0_2 p2.length c0_2, .slice A0_3 p3.length c0_3, .slice A0_4 p4.length c0_4] BK5_gp.out ?hx ?hs Tryd.underlying80 rfl ?ht ?_; (case ho => rfl); (case hg => rfl); (case hx => rfl); (case hs => rfl); (case ht => kernel_rfl)) | ((with_reducible refine gate_dst (N := 19) rfl ?_); refine load_event ?hg (t := 82) (x := ?xl108) ?ho (off := 0) [.int .i64 x1, .int .i64 x2, .int .i64 x3, .int .i64 x4, .int .i64 x5, .bool x6, .int .i64 x7, .slice Ax x8.length cx] BK5_gx.out ?hx ?hs Tryd.underlying82 rfl ?ht ?_; (case ho => rfl); (case hg => rfl); (case hx => rfl); (case hs => rfl); (case ht => kernel_rfl)) | ((with_reducible refine gate_callee (f := 56) rfl ?_); refine goesL_ (some 20) rfl rfl Tryd.func56 (by kernel_rfl) rfl #[.agg #[.slice A0_0 p0.length c0_0, .slice A0_1 p1.length c0_1, .slice A0_2 p2.length c0_2, .slice A0_3 p3.length c0_3, .slice A0_4 p4.length c0_4], .agg #[.int .i64 x1, .int .i64 x2, .int .i64 x3, .int .i64 x4, .int .i64 x5, .bool x6, .int .i64 x7, .slice Ax x8.length cx], .slice none 0 0] rfl (by (try simp only [List.map_toArray, List.map_cons, List.map_nil]); first | done | rfl) ?_; refine (phase_Scan.calls k A0_0 c0_0 p0 A0_1 c0_1 p1 A0_2 c0_2 p2 A0_3 c0_3 p3 A0_4 c0_4 p4 x1 x2 x3 x4 x5 x6 x7 Ax cx x8 none 0 ([] : List (S69)) 1 1 y3 y4 y5 y6 y7 y8 yw 0 _ (Kd.C_below HR0_0.out HB5.out) HC0_0.out (Kd.C_below HR0_1.out HB5.out) HC0_1.out (Kd.C_below HR0_2.out HB5.out) HC0_2.out (Kd.C_below HR0_3.out HB5.out) HC0_3.out (Kd.C_below HR0_4.out HB5.out) HC0_4.out (Kd.R_reads' HR5_x.out).2.2 HC_x.out (Kd.C_nil _ _) (Nat.zero_le _) H3.out (UT.below HT0.out (below_step HW.out HB5.out))).mono ?_; rintro e_ w6 ⟨v7_, v8_, rfl, hr, he_, hb⟩; refine ⟨_, rfl, ?_⟩; obtain ⟨Ay, cy, rfl, hcy, hCy⟩ := Kd.R_reads hr; have HL6_y := Aside0.mk (Kd.R_lower hr (below_size HB5.out)); have HC_y := Aside0.mk hcy; have HV6_y := Aside0.mk hCy; clear hCy hr hcy; obtain ⟨Ae, ce, rfl, hce, hCe⟩ := Kd.R_reads he_; have HL6_e := Aside0.mk (Kd.R_lower he_ (below_size HB5.out)); have HC_e := Aside0.mk hce; have HV6_e := Aside0.mk hCe; clear hCe he_ hce; have HB6 := Aside0.mk (below_step HB5.out hb); have BK6_gp := Aside0.mk (blk_below BK5_gp.out hb); have BK6_gx := Aside0.mk (blk_below BK5_gx.out hb); have HR6_x := Aside0.mk (Kd.R_below HR5_x.out hb); clear hb) | ((with_reducible refine gate_store (t := 82) (p := 2) rfl ?_); refine put_event (t := 82) (x := ?xo109) (y := ?yo110) (off := 0) ?hg ?hn ?ho [.int .i64 1, .int .i64 1, .int .i64 y3, .int .i64 y4, .int .i64 y5, .bool y6, .int .i64 y7, .slice Ay y8.length cy] BK6_gx.out ?hx ?hy ?ht ?hf rfl #[.int .i64 1, .int .i64 1, .int .i64 y3, .int .i64 y4, .int .i64 y5, .bool y6, .int .i64 y7, .slice Ay y8.length cy] ?hcs ?_; (case ho => rfl); (case hg => rfl); (case hn => rfl); (case hx => rfl); (case hy => rfl); (case ht => kernel_rfl); (case hf => exact Nat.le_of_ble_eq_true rfl); (case hcs => rfl); intro w7 hbox hp; have HB7 := Aside0.mk (HB6.out.trans (hp.below.mono GE_gx.out)); have BK7_gp := Aside0.mk (hp.blk BK6_gp.out NE_gp_gx.out); have BK7_gx := Aside0.mk hbox; have HR7_x := Aside0.mk (R_put HR6_x.out BK6_gx.out (by decide) hp); have HR7_y := Aside0.mk (R_put HL6_y.out BK6_gx.out (by decide) hp); have HR7_e := Aside0.mk (R_put HL6_e.out BK6_gx.out (by decide) hp); clear hbox hp) | ((with_reducible refine gate_dst (N := 25) rfl ?_); refine load_event ?hg (t := 82) (x := ?xl111) ?ho (off := 0) [.int .i64 1, .int .i64 1, .int .i64 y3, .int .i64 y4, .int .i64 y5, .bool y6, .int .i64 y7, .slice Ay y8.length cy] BK7_gx.out ?hx ?hs Tryd.underlying82 rfl ?ht ?_; (case ho => rfl); (case hg => rfl); (case hx => rfl); (case hs => rfl); (case ht => kernel_rfl)) | (go_at_call 52; refine (phase_Command.calls k 1 1 y3 y4 y5 y6 y7 Ay cy y8 3 4 b2 b3 b4 b5 b6 b7 b8 0 _ (Kd.R_reads' HR7_y.out).2.2 HC_y.out H4.out).mono ?_; rintro e_ w8 ⟨v7_, rfl, hr, hb⟩; obtain ⟨Ab, cb, rfl, hcb, hCb⟩ := Kd.R_reads hr; have HL8_b := Aside0.mk (Kd.R_lower hr (below_size HB7.out)); have HC_b := Aside0.mk hcb; have HV8_b := Aside0.mk hCb; clear hCb hr hcb; have HB8 := Aside0.mk (below_step HB7.out hb); have BK8_gp := Aside0.mk (blk_below BK7_gp.out hb); have BK8_gx := Aside0.mk (blk_below BK7_gx.out hb); have HR8_x := Aside0.mk (Kd.R_below HR7_x.out hb); have HR8_y := Aside0.mk (Kd.R_below HR7_y.out hb); have HR8_e := Aside0.mk (Kd.R_below HR7_e.out hb); clear hb) | ((with_reducible refine gate_dst (N := 6) rfl ?_); refine box_event ?hg (N := 6) ?hd (cs := #[.int .i64 0, .int .i64 0, .int .i64 0, .int .i64 0, .int .i64 0, .bool false, .int .i64 0, .slice none 0 0]) (t := 82) ?hr ?_; (case hd => rfl); (case hg => rfl); (case hr => first | (go_simp; done) | (go_simp; rfl)); intro gy hg w9 hbox hb; have GE_gy : Aside0 (wb.heap.size ≤ gy) := ⟨by rw [hg]; exact below_size HB8.out⟩; have NE_gp_gy : Aside0 (gp ≠ gy) := ⟨by have h_ := blk_lt BK8_gp.out; omega⟩; have NE_gy_gp : Aside0 (gy ≠ gp) := ⟨fun h_ => NE_gp_gy.out h_.symm⟩; have NE_gx_gy : Aside0 (gx ≠ gy) := ⟨by have h_ := blk_lt BK8_gx.out; omega⟩; have NE_gy_gx : Aside0 (gy ≠ gx) := ⟨fun h_ => NE_gx_gy.out h_.symm⟩; have HB9 := Aside0.mk (below_step HB8.out hb); have BK9_gp := Aside0.mk (blk_below BK8_gp.out hb); have BK9_gx := Aside0.mk (blk_below BK8_gx.out hb); have HR9_x := Aside0.mk (Kd.R_below HR8_x.out hb); have HR9_y := Aside0.mk (Kd.R_below HR8_y.out hb); have HR9_e := Aside0.mk (Kd.R_below HR8_e.out hb); have HR9_b := Aside0.mk (Kd.R_below HL8_b.out hb); have BK9_gy := Aside0.mk hbox; clear hbox hb hg) | ((with_reducible refine gate_store (t := 82) (p := 6) rfl ?_); refine put_event (t := 82) (x := ?xo112) (y := ?yo113) (off := 0) ?hg ?hn ?ho [.int .i64 4, .int .i64 b2, .int .i64 b3, .int .i64 b4, .int .i64 b5, .bool b6, .int .i64 b7, .slice Ab b8.length cb] BK9_gy.out ?hx ?hy ?ht ?hf rfl #[.int .i64 4, .int .i64 b2, .int .i64 b3, .int .i64 b4, .int .i64 b5, .bool b6, .int .i64 b7, .slice Ab b8.length cb] ?hcs ?_; (case ho => rfl); (case hg => rfl); (case hn => rfl); (case hx => rfl); (case hy => rfl); (case ht => kernel_rfl); (case hf => exact Nat.le_of_ble_eq_true rfl); (case hcs => rfl); intro w10 hbox hp; have HB10 := Aside0.mk (HB9.out.trans (hp.below.mono GE_gy.out)); have BK10_gp := Aside0.mk (hp.blk BK9_gp.out NE_gp_gy.out); have BK10_gx := Aside0.mk (hp.blk BK9_gx.out NE_gx_gy.out); have BK10_gy := Aside0.mk hbox; have HR10_x := Aside0.mk (R_put HR9_x.out BK9_gy.out (by decide) hp); have HR10_y := Aside0.mk (R_put HR9_y.out BK9_gy.out (by decide) hp); have HR10_e := Aside0.mk (R_put HR9_e.out BK9_gy.out (by decide) hp); have HR10_b := Aside0.mk (R_put HR9_b.out BK9_gy.out (by decide) hp); clear hbox hp) | ((with_reducible refine gate_dst (N := 30) rfl ?_); refine load_event ?hg (t := 80) (x := ?xl114) ?ho (off := 0) [.slice A0_0 p0.length c0_0, .slice A0_1 p1.length c0_1, .slice A0_2 p2.length c0_2, .slice A0_3 p3.length c0_3, .slice A0_4 p4.length c0_4] BK10_gp.out ?hx ?hs Tryd.underlying80 rfl ?ht ?_; (case ho => rfl); (case hg => rfl); (case hx => rfl); (case hs => rfl); (case ht => kernel_rfl)) | ((with_reducible refine gate_dst (N := 31) rfl ?_); refine load_event ?hg (t := 82) (x := ?xl115) ?ho (off := 0) [.int .i64 4, .int .i64 b2, .int .i64 b3, .int .i64 b4, .int .i64 b5, .bool b6, .int .i64 b7, .slice Ab b8.length cb] BK10_gy.out ?hx ?hs Tryd.underlying82 rfl ?ht ?_; (case ho => rfl); (case hg => rfl); (case hx => rfl); (case hs => rfl); (case ht => kernel_rfl)) | ((with_reducible refine gate_callee (f := 56) rfl ?_); refine goesL_ (some 32) rfl rfl Tryd.func56 (by kernel_rfl) rfl #[.agg #[.slice A0_0 p0.length c0_0, .slice A0_1 p1.length c0_1, .slice A0_2 p2.length c0_2, .slice A0_3 p3.length c0_3, .slice A0_4 p4.length c0_4], .agg #[.int .i64 4, .int .i64 b2, .int .i64 b3, .int .i64 b4, .int .i64 b5, .bool b6, .int .i64 b7, .slice Ab b8.length cb], .slice none 0 0] rfl (by (try simp only [List.map_toArray, List.map_cons, List.map_nil]); first | done | rfl) ?_; refine (phase_Scan.calls k A0_0 c0_0 p0 A0_1 c0_1 p1 A0_2 c0_2 p2 A0_3 c0_3 p3 A0_4 c0_4 p4 4 b2 b3 b4 b5 b6 b7 Ab cb b8 none 0 ([] : List (S69)) 5 1 z3 z4 z5 z6 z7 z8 zw 0 _ (Kd.C_below HR0_0.out HB10.out) HC0_0.out (Kd.C_below HR0_1.out HB10.out) HC0_1.out (Kd.C_below HR0_2.out HB10.out) HC0_2.out (Kd.C_below HR0_3.out HB10.out) HC0_3.out (Kd.C_below HR0_4.out HB10.out) HC0_4.out (Kd.R_reads' HR10_b.out).2.2 HC_b.out (Kd.C_nil _ _) (Nat.zero_le _) H5.out (UT.below HT0.out (below_step HW.out HB10.out))).mono ?_; rintro e_ w11 ⟨v7_, v8_, rfl, hr, he_, hb⟩; refine ⟨_, rfl, ?_⟩; obtain ⟨Az, cz, rfl, hcz, hCz⟩ := Kd.R_reads hr; have HL11_z := Aside0.mk (Kd.R_lower hr (below_size HB10.out)); have HC_z := Aside0.mk hcz; have HV11_z := Aside0.mk hCz; clear hCz hr hcz; obtain ⟨Ao, co, rfl, hco, hCo⟩ := Kd.R_reads he_; have HL11_o := Aside0.mk (Kd.R_lower he_ (below_size HB10.out)); have HC_o := Aside0.mk hco; have HV11_o := Aside0.mk hCo; clear hCo he_ hco; have HB11 := Aside0.mk (below_step HB10.out hb); have BK11_gp := Aside0.mk (blk_below BK10_gp.out hb); have BK11_gx := Aside0.mk (blk_below BK10_gx.out hb); have BK11_gy := Aside0.mk (blk_below BK10_gy.out hb); have HR11_x := Aside0.mk (Kd.R_below HR10_x.out hb); have HR11_y := Aside0.mk (Kd.R_below HR10_y.out hb); have HR11_e := Aside0.mk (Kd.R_below HR10_e.out hb); have HR11_b := Aside0.mk (Kd.R_below HR10_b.out hb); clear hb) | ((with_reducible refine gate_dst (N := 8) rfl ?_); refine box_event ?hg (N := 8) ?hd (cs := #[.int .i64 0, .int .i64 0, .int .i64 0, .int .i64 0, .int .i64 0, .bool false, .int .i64 0, .slice none 0 0]) (t := 82) ?hr ?_; (case hd => rfl); (case hg => rfl); (case hr => first | (go_simp; done) | (go_simp; rfl)); intro gz hg w12 hbox hb; have GE_gz : Aside0 (wb.heap.size ≤ gz) := ⟨by rw [hg]; exact below_size HB11.out⟩; have NE_gp_gz : Aside0 (gp ≠ gz) := ⟨by have h_ := blk_lt BK11_gp.out; omega⟩; have NE_gz_gp : Aside0 (gz ≠ gp) := ⟨fun h_ => NE_gp_gz.out h_.symm⟩; have NE_gx_gz : Aside0 (gx ≠ gz) := ⟨by have h_ := blk_lt BK11_gx.out; omega⟩; have NE_gz_gx : Aside0 (gz ≠ gx) := ⟨fun h_ => NE_gx_gz.out h_.symm⟩; have NE_gy_gz : Aside0 (gy ≠ gz) := ⟨by have h_ := blk_lt BK11_gy.out; omega⟩; have NE_gz_gy : Aside0 (gz ≠ gy) := ⟨fun h_ => NE_gy_gz.out h_.symm⟩; have HB12 := Aside0.mk (below_step HB11.out hb); have BK12_gp := Aside0.mk (blk_below BK11_gp.out hb); have BK12_gx := Aside0.mk (blk_below BK11_gx.out hb); have BK12_gy := Aside0.mk (blk_below BK11_gy.out hb); have HR12_x := Aside0.mk (Kd.R_below HR11_x.out hb); have HR12_y := Aside0.mk (Kd.R_below HR11_y.out hb); have HR12_e := Aside0.mk (Kd.R_below HR11_e.out hb); have HR12_b := Aside0.mk (Kd.R_below HR11_b.out hb); have HR12_z := Aside0.mk (Kd.R_below HL11_z.out hb); have HR12_o := Aside0.mk (Kd.R_below HL11_o.out hb); have BK12_gz := Aside0.mk hbox; clear hbox hb hg) | ((with_reducible refine gate_store (t := 82) (p := 8) rfl ?_); refine put_event (t := 82) (x := ?xo116) (y := ?yo117) (off := 0) ?hg ?hn ?ho [.int .i64 5, .int .i64 1, .int .i64 z3, .int .i64 z4, .int .i64 z5, .bool z6, .int .i64 z7, .slice Az z8.length cz] BK12_gz.out ?hx ?hy ?ht ?hf rfl #[.int .i64 5, .int .i64 1, .int .i64 z3, .int .i64 z4, .int .i64 z5, .bool z6, .int .i64 z7, .slice Az z8.length cz] ?hcs ?_; (case ho => rfl); (case hg => rfl); (case hn => rfl); (case hx => rfl); (case hy => rfl); (case ht => kernel_rfl); (case hf => exact Nat.le_of_ble_eq_true rfl); (case hcs => rfl); intro w13 hbox hp; have HB13 := Aside0.mk (HB12.out.trans (hp.below.mono GE_gz.out)); have BK13_gp := Aside0.mk (hp.blk BK12_gp.out NE_gp_gz.out); have BK13_gx := Aside0.mk (hp.blk BK12_gx.out NE_gx_gz.out); have BK13_gy := Aside0.mk (hp.blk BK12_gy.out NE_gy_gz.out); have BK13_gz := Aside0.mk hbox; have HR13_x := Aside0.mk (R_put HR12_x.out BK12_gz.out (by decide) hp); have HR13_y := Aside0.mk (R_put HR12_y.out BK12_gz.out (by decide) hp); have HR13_e := Aside0.mk (R_put HR12_e.out BK12_gz.out (by decide) hp); have HR13_b := Aside0.mk (R_put HR12_b.out BK12_gz.out (by decide) hp); have HR13_z := Aside0.mk (R_put HR12_z.out BK12_gz.out (by decide) hp); have HR13_o := Aside0.mk (R_put HR12_o.out BK12_gz.out (by decide) hp); clear hbox hp))
  (try simp only [Act.put, List.setIfInBounds_toArray, List.set_cons_zero, List.set_cons_succ])
  have hc13_gx_0 : w13.cell? ⟨gx, 0, none⟩ = some (.int .i64 1) := (blk_cell BK13_gx.out 0).trans rfl
  have hc13_gx_1 : w13.cell? ⟨gx, 1, none⟩ = some (.int .i64 1) := (blk_cell BK13_gx.out 1).trans rfl
  have hc13_gy_0 : w13.cell? ⟨gy, 0, none⟩ = some (.int .i64 4) := (blk_cell BK13_gy.out 0).trans rfl
  have hc13_gz_0 : w13.cell? ⟨gz, 0, none⟩ = some (.int .i64 5) := (blk_cell BK13_gz.out 0).trans rfl
  have hc13_gz_1 : w13.cell? ⟨gz, 1, none⟩ = some (.int .i64 1) := (blk_cell BK13_gz.out 1).trans rfl
  obtain ⟨ad, ead, hx_0, hx_1, hx_2, hx_3⟩ := at_T72 (Kd.R_reads' HR13_e.out).2.2 0 (by omega) hlen
  cases ead
  have qi : (0 < yw.length) = True := eq_true (by omega)
  (try rw [show ((0 : Int)).toNat = 0 from rfl] at hx_0); (try rw [show 0 * 4 = 0 from rfl] at hx_0); (try rw [Addr.add_zero'] at hx_0)
  (try rw [show ((0 : Int)).toNat = 0 from rfl] at hx_1); (try rw [show 0 * 4 = 0 from rfl] at hx_1); (try rw [Addr.add_zero'] at hx_1)
  (try rw [show ((0 : Int)).toNat = 0 from rfl] at hx_2); (try rw [show 0 * 4 = 0 from rfl] at hx_2); (try rw [Addr.add_zero'] at hx_2)
  (try rw [show ((0 : Int)).toNat = 0 from rfl] at hx_3); (try rw [show 0 * 4 = 0 from rfl] at hx_3); (try rw [Addr.add_zero'] at hx_3)
  go_wp2_with (first | ((with_reducible refine gate_dst (N := 90) rfl ?_); (try (refine gate_guard (by rfl) ?_; dsimp only)); refine load_event ?hg (t := 80) (x := ?xl118) ?ho (off := 0) [.slice A0_0 p0.length c0_0, .slice A0_1 p1.length c0_1, .slice A0_2 p2.length c0_2, .slice A0_3 p3.length c0_3, .slice A0_4 p4.length c0_4] BK13_gp.out ?hx ?hs Tryd.underlying80 rfl ?ht ?_; (case ho => rfl); (case hg => rfl); (case hx => rfl); (case hs => rfl); (case ht => kernel_rfl)) | ((with_reducible refine gate_dst (N := 91) rfl ?_); (try (refine gate_guard (by rfl) ?_; dsimp only)); refine Kd.R_lit Kd.string _ 9 ?hg (N := 91) ?hd (xs := ([(⟨#[118]⟩ : ByteArray)] : List ByteArray)) (inner := [.string (⟨#[118]⟩ : ByteArray)]) (ok := fun _ => True) (okp := fun _ => True) ?hr ?hp (fun _ hk => hk) trivial (Below.refl _ _) (Nat.le_refl _) (by simp) ?_; (case hd => rfl); (case hg => rfl); (case hr => first | (go_simp; done) | (go_simp; rfl)); (case hp => exact (Reps.one (show Kd.M Kd.string _ _ _ (⟨#[118]⟩ : ByteArray) [.string (⟨#[118]⟩ : ByteArray)] from rfl) (Reps.none _ _))); intro v_ w14 hr hb hg_ hnew_; clear hg_ hnew_; obtain ⟨As1, cs1, rfl, hcs1, hCs1⟩ := Kd.R_reads hr; have HC_s1 := Aside0.mk hcs1; have HV14_s1 := Aside0.mk hCs1; clear hr hcs1 hCs1; have HB14 := Aside0.mk (below_step HB13.out hb); have BK14_gp := Aside0.mk (blk_below BK13_gp.out hb); have BK14_gx := Aside0.mk (blk_below BK13_gx.out hb); have BK14_gy := Aside0.mk (blk_below BK13_gy.out hb); have BK14_gz := Aside0.mk (blk_below BK13_gz.out hb); have HR14_x := Aside0.mk (Kd.R_below HR13_x.out hb); have HR14_y := Aside0.mk (Kd.R_below HR13_y.out hb); have HR14_e := Aside0.mk (Kd.R_below HR13_e.out hb); have HR14_b := Aside0.mk (Kd.R_below HR13_b.out hb); have HR14_z := Aside0.mk (Kd.R_below HR13_z.out hb); have HR14_o := Aside0.mk (Kd.R_below HR13_o.out hb); clear hb) | ((with_reducible refine gate_dst (N := 92) rfl ?_); (try (refine gate_guard (by rfl) ?_; dsimp only)); refine Kd.R_lit Kd.string _ 9 ?hg (N := 92) ?hd (xs := ([(⟨#[116]⟩ : ByteArray)] : List ByteArray)) (inner := [.string (⟨#[116]⟩ : ByteArray)]) (ok := fun _ => True) (okp := fun _ => True) ?hr ?hp (fun _ hk => hk) trivial (Below.refl _ _) (Nat.le_refl _) (by simp) ?_; (case hd => rfl); (case hg => rfl); (case hr => first | (go_simp; done) | (go_simp; rfl)); (case hp => exact (Reps.one (show Kd.M Kd.string _ _ _ (⟨#[116]⟩ : ByteArray) [.string (⟨#[116]⟩ : ByteArray)] from rfl) (Reps.none _ _))); intro v_ w15 hr hb hg_ hnew_; clear hg_ hnew_; obtain ⟨As2, cs2, rfl, hcs2, hCs2⟩ := Kd.R_reads hr; have HC_s2 := Aside0.mk hcs2; have HV15_s2 := Aside0.mk hCs2; clear hr hcs2 hCs2; have HB15 := Aside0.mk (below_step HB14.out hb); have BK15_gp := Aside0.mk (blk_below BK14_gp.out hb); have BK15_gx := Aside0.mk (blk_below BK14_gx.out hb); have BK15_gy := Aside0.mk (blk_below BK14_gy.out hb); have BK15_gz := Aside0.mk (blk_below BK14_gz.out hb); have HR15_x := Aside0.mk (Kd.R_below HR14_x.out hb); have HR15_y := Aside0.mk (Kd.R_below HR14_y.out hb); have HR15_e := Aside0.mk (Kd.R_below HR14_e.out hb); have HR15_b := Aside0.mk (Kd.R_below HR14_b.out hb); have HR15_z := Aside0.mk (Kd.R_below HR14_z.out hb); have HR15_o := Aside0.mk (Kd.R_below HR14_o.out hb); have HCW15_s1 := Aside0.mk (Kd.C_below HV14_s1.out hb); clear hb) | (go_at_call 80; refine (phase_Check.calls k A0_0 c0_0 p0 A0_1 c0_1 p1 A0_2 c0_2 p2 A0_3 c0_3 p3 A0_4 c0_4 p4 As1 cs1 ([(⟨#[118]⟩ : ByteArray)] : List ByteArray) none 0 ([] : List ByteArray) As2 cs2 ([(⟨#[116]⟩ : ByteArray)] : List ByteArray) 0 _ (Kd.C_below HR0_0.out HB15.out) HC0_0.out (Kd.C_below HR0_1.out HB15.out) HC0_1.out (Kd.C_below HR0_2.out HB15.out) HC0_2.out (Kd.C_below HR0_3.out HB15.out) HC0_3.out (Kd.C_below HR0_4.out HB15.out) HC0_4.out HCW15_s1.out HC_s1.out (Kd.C_nil _ _) (Nat.zero_le _) HV15_s2.out HC_s2.out H6.out (UT.below HT0.out (below_step HW.out HB15.out))).mono ?_; rintro e_ w16 ⟨rfl, hb⟩; have HB16 := Aside0.mk (below_step HB15.out hb); have BK16_gp := Aside0.mk (blk_below BK15_gp.out hb); have BK16_gx := Aside0.mk (blk_below BK15_gx.out hb); have BK16_gy := Aside0.mk (blk_below BK15_gy.out hb); have BK16_gz := Aside0.mk (blk_below BK15_gz.out hb); have HR16_x := Aside0.mk (Kd.R_below HR15_x.out hb); have HR16_y := Aside0.mk (Kd.R_below HR15_y.out hb); have HR16_e := Aside0.mk (Kd.R_below HR15_e.out hb); have HR16_b := Aside0.mk (Kd.R_below HR15_b.out hb); have HR16_z := Aside0.mk (Kd.R_below HR15_z.out hb); have HR16_o := Aside0.mk (Kd.R_below HR15_o.out hb); have HCW16_s1 := Aside0.mk (Kd.C_below HCW15_s1.out hb); have HCW16_s2 := Aside0.mk (Kd.C_below HV15_s2.out hb); clear hb))
  go_ret
  exact ⟨rfl, below_step HW.out HB16.out⟩
theorem malthouselaw12_awake_r {k : Nat} {r : Bool} (h : malthouselaw12_awake.f k = some r) : r = true := by
  have h0 : malthouselaw12_awake.f 40 = some true := by decide +kernel
  have up : ∀ n a b, malthouselaw12_awake.f a = some b → malthouselaw12_awake.f (a + n) = some b := fun n => by
    induction n with
    | zero => exact fun a b h => h
    | succ n ih => exact fun a b h => malthouselaw12_awake.mono _ _ (ih a b h)
  have h1 := up 40 k r h
  have h2 := up k 40 true h0
  rw [Nat.add_comm] at h2
  rw [h1] at h2
  exact Option.some.inj h2
end Go.Proofs.YtiaccdaeomaogaaDoor.F
namespace Go.Proofs.YtiaccdaeomaogaaDoor.F
open Go.RowKit Go.Proofs.YtiaccdaeomaogaaDoorW.PrintWords Go.Proofs.YtiaccdaeomaogaaDoorW.PrintLast Go.Proofs.YtiaccdaeomaogaaDoorW.PrintMore
set_option linter.unusedVariables false
set_option linter.unusedSimpArgs false
theorem awake12_tot : Tot (fun k => malthouselaw12_awake.f k) true := upTo (f := fun k => malthouselaw12_awake.f k) malthouselaw12_awake.mono (show malthouselaw12_awake.f 40 = some true by decide +kernel)
theorem dropC {l : List S69} {i : Nat} (h : i < l.length) : l.drop i = rd_T69 l (i : Int) :: l.drop (i + 1) := by
  rw [List.drop_eq_getElem_cons h]
  unfold rd_T69; rw [Int.toNat_natCast, List.getD, List.getElem?_eq_getElem h]; rfl
theorem Cells12_tot (l : List S69) : ∃ b, Tot (fun k => malthouseref12_Cells.f k l) b ∧ (b = true → l.length ≤ 100 ∧ Small l) := by
  unfold malthouseref12_Cells.f
  by_cases h : (l.length : Int) > 100
  · simp only [if_pos h]; exact ⟨false, Tot.const _, fun h => by cases h⟩
  · simp only [if_neg h]
    have L : ∀ (m i : Nat), i + m = l.length → ∃ b, Tot (fun k => malthouseref12_Cells.l0 k l (i : Int)) b ∧ (b = true → ∀ c ∈ l.drop i, c.f0.size ≤ 200) := by
      intro m
      induction m with
      | zero => intro i e; exact ⟨true, Tot.succ (by simp only [malthouseref12_Cells.l0, if_neg (show ¬ (i : Int) < (l.length : Int) by omega)]; exact Tot.const _), fun _ c hc => by rw [List.drop_eq_nil_of_le (by omega)] at hc; cases hc⟩
      | succ m ih =>
        intro i e
        by_cases hn : ((rd_T69 l (i : Int)).f0.size : Int) > 200
        · exact ⟨false, Tot.succ (by simp only [malthouseref12_Cells.l0, if_pos (show (i : Int) < (l.length : Int) by omega), if_pos (show 0 ≤ (i : Int) by omega), if_pos hn]; exact Tot.const _), fun h => by cases h⟩
        · obtain ⟨b, hb, kb⟩ := ih (i + 1) (by omega)
          refine ⟨b, Tot.succ (by simp only [malthouseref12_Cells.l0, if_pos (show (i : Int) < (l.length : Int) by omega), if_pos (show 0 ≤ (i : Int) by omega), if_neg hn, w1 (show 0 ≤ (i : Int) by omega) (show (i : Int) < 9223372036854775807 by omega)]; exact hb), fun h c hc => ?_⟩
          rw [dropC (by omega)] at hc
          rcases List.mem_cons.mp hc with rfl | hc
          · omega
          · exact kb h c hc
    obtain ⟨b, hb, kb⟩ := L l.length 0 (by omega)
    exact ⟨b, hb, fun h => ⟨by omega, fun c hc => kb h c (by simpa using hc)⟩⟩
theorem Same12_refl (st rp rl mp ml : Int) (man : Bool) (code : Int) (l : List S69) (hl : l.length ≤ 9223372036854775807) : Tot (fun k => malthouseref12_Same.f k st rp rl mp ml man code l st rp rl mp ml man code l) true := by
  have L : ∀ (m i : Nat), i + m = l.length → Tot (fun k => malthouseref12_Same.l0 k (i : Int) st rp rl mp ml man code l st rp rl mp ml man code l) true := by
    intro m
    induction m with
    | zero => intro i e; exact Tot.succ (by simp only [malthouseref12_Same.l0, if_neg (show ¬ (i : Int) < (l.length : Int) by omega)]; exact Tot.const _)
    | succ m ih =>
      intro i e
      refine Tot.succ ?_
      simp only [malthouseref12_Same.l0, if_pos (show (i : Int) < (l.length : Int) by omega), if_pos (show 0 ≤ (i : Int) by omega), beq_self_eq_true, Bool.not_true, Bool.or_false, if_neg (show ¬ (false = true) by decide), w1 (show 0 ≤ (i : Int) by omega) (show (i : Int) < 9223372036854775807 by omega)]
      exact ih (i + 1) (by omega)
  unfold malthouseref12_Same.f
  simp only [if_true, beq_self_eq_true, Bool.not_true, Bool.or_false, if_neg (show ¬ (false = true) by decide), bne_self_eq_false]
  refine Tot.succ ?_
  simp only [malthouseref12_Same.j0, if_neg (show ¬ (false = true) by decide)]
  exact L l.length 0 (by omega)
end Go.Proofs.YtiaccdaeomaogaaDoor.F
