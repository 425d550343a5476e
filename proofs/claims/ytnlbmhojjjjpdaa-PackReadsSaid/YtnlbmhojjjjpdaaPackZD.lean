/- The walk of PackReads. -/
import Derived.Test.YtnlbmhojjjjpdaaPackZC
import Derived.Test.YtnlbmhojjjjpdaaPackN
namespace Go.Proofs.Ytnlbmhojjjjpdaa.Pk
open Go.RowKit Go.Proofs.YtnlbmhojjjjpdaaW.PrintWords Go.Proofs.YtnlbmhojjjjpdaaW.PrintLast Go.Proofs.YtnlbmhojjjjpdaaW.PrintMore
set_option linter.unusedVariables false
set_option linter.unusedSimpArgs false
set_option maxHeartbeats 4000000 in
set_option maxRecDepth 100000 in
theorem PackReads_big (A : Option Addr) (c : Nat) (b : List Int) (AL : Option Addr) (cl : Nat) (l : List S27) (w : World) (h : 10000 < b.length ∨ 200 < l.length) :
    Calls Try.prog 7 #[.slice A b.length c, .slice AL l.length cl] w fun e w' => e = .returned (.bool true) ∧ Below w.heap.size w w' := by
  have HU := Aside0.mk (awake_calls w)
  have dl : decide ((b.length : Int) > 10000) = true ∨ (decide ((b.length : Int) > 10000) = false ∧ decide ((l.length : Int) > 200) = true) := by
    by_cases h1 : 10000 < b.length
    · exact .inl (decide_eq_true (by omega))
    · exact .inr ⟨decide_eq_false (by omega), decide_eq_true (by omega)⟩
  clear h
  rcases dl with d1 | ⟨d1, d2⟩
  all_goals
    go_enter Try.func7, Try.ntmps7
    go_wp2_with (first | (go_at_call 15; refine HU.out.mono ?_; rintro e w1 ⟨rfl, hB⟩; have HB1 := Aside0.mk hB; clear hB))
    go_ret
    exact ⟨rfl, HB1.out⟩
set_option maxHeartbeats 8000000 in
set_option maxRecDepth 100000 in
theorem PackReads_calls (A : Option Addr) (c : Nat) (b : List Int) (AL : Option Addr) (cl : Nat) (l : List S27) (w : World) (hc : b.length ≤ c) (hrd : ReadsInt w .u8 A b.length b) (h8 : Bytes8 b) (hr : Kd.C k27 w AL l.length l) (hcl : l.length ≤ cl) :
    Calls Try.prog 7 #[.slice A b.length c, .slice AL l.length cl] w fun e w' => e = .returned (.bool true) ∧ Below w.heap.size w w' := by
  by_cases hbig : 10000 < b.length ∨ 200 < l.length
  · exact PackReads_big A c b AL cl l w hbig
  have hb2 : b.length ≤ 10000 := by omega
  have hl2 : l.length ≤ 200 := by omega
  have d1 : decide ((b.length : Int) > 10000) = false := decide_eq_false (by omega)
  have d2 : decide ((l.length : Int) > 200) = false := decide_eq_false (by omega)
  have HU := Aside0.mk (awake_calls w)
  have HRB := Aside0.mk hrd
  have HBL := Aside0.mk hb2
  have HLL := Aside0.mk hl2
  have HR := Aside0.mk hr
  have HCL := Aside0.mk hcl
  have HCB := Aside0.mk hc
  have H8 := Aside0.mk h8
  clear hbig hb2 hl2 hrd hc h8 hr hcl
  go_enter Try.func7, Try.ntmps7
  go_wp2_with (first
    | (go_at_call 15; refine HU.out.mono ?_; rintro e w1 ⟨rfl, hB⟩; have HB1 := Aside0.mk hB; have HRB1 := Aside0.mk (ReadsInt.below HRB.out hB); clear hB)
    | (at_builtin; refine print_append_row (w0 := w1) w1.heap.size rfl (.const (.slice none 0 0)) (.tmp 26) 25 5 .u8 1 rfl Try.underlying25 info5 (by decide) _ [] b A b.length c rfl rfl (own_nil _ _ _ _) HRB1.out (Below.refl _ w1) (Nat.le_refl _) (by have := HBL.out; simp; omega) ?_; intro v1 w2 hown hb1 hg1 _; have hown2 : w2.ownsRow w1.heap.size 5 1 v1 b.length (nums .u8 b) := (by simpa using hown); obtain ⟨A2, c2, o, rfl, hc2, hr2, ho2⟩ := own_cells hown2; have HB2 := Aside0.mk (below_step HB1.out hb1); have HO2 := Aside0.mk ho2; have HPR := Aside0.mk (Pack_Read A2 c2 w2 b hc2 hr2 (by have := HBL.out; omega)); clear hown hown2 hb1 hg1 hc2 hr2 ho2)
    | (go_at_call 24; refine HPR.out.mono ?_; rintro e w3 ⟨g, A3, c3, rfl, hg, hb, hc3, hr3, hfar, hB⟩; have HF3 := Aside0.mk hfar; have HG2 := Aside0.mk hg; have HB23 := Aside0.mk hB; have HB3 := Aside0.mk (below_step HB2.out hB); have HR3 := Aside0.mk hr3; have Hb3 := Aside0.mk hb; have HC3 := Aside0.mk hc3; clear hg hb hc3 hr3 hfar hB))
  obtain ⟨w4, hw4⟩ : ∃ w4, w4 = w3.alloc (.cells #[.slice A b.length c, .bool false] 51) := ⟨_, rfl⟩
  rw [← hw4]
  have hal : Below w3.heap.size w3 w4 := by rw [hw4]; exact below_alloc (Below.refl _ w3) _
  have Hh4 : Aside0 (w4.heap[w3.heap.size]? = some (.cells #[.slice A b.length c, .bool false] 51 (0, 0))) := ⟨by rw [hw4]; exact heap_alloc_new w3 _⟩
  have HB4 := Aside0.mk (below_step HB3.out hal)
  have HB24 := Aside0.mk (below_step HB23.out hal)
  have HG3 := Aside0.mk (lt_of_get Hb3.out)
  have Hg4 := Aside0.mk ((hal.block g HG3.out).trans Hb3.out)
  have HR4 := Aside0.mk (ReadsInt.below HR3.out hal)
  have HRb4 := Aside0.mk (ReadsInt.below HRB.out HB4.out)
  have HO4 : Aside0 (0 < b.length → A2 = some ⟨o, 0, none⟩ ∧ w.heap.size ≤ o ∧ o < w2.heap.size ∧ OwnCells w4 o b.length) := ⟨fun hn => by
    obtain ⟨e, ho, cs, h1, h2⟩ := HO2.out hn
    exact ⟨e, Nat.le_trans HB1.out.size ho, lt_of_get h1, cs, (HB24.out.block o (lt_of_get h1)).trans h1, h2⟩⟩
  have HK0 := Aside0.mk (KeptRow.refl w4 o b.length)
  have HW4 : Aside0 (w3.heap.size < w4.heap.size) := ⟨lt_of_get Hh4.out⟩
  clear hal hw4
  go_loopg [9] b.length (fun kq v9 w' => ∃ (x : Int), v9 = .int .i64 x ∧ Aside0 (0 ≤ x ∧ x ≤ (b.length : Int) ∧ (kq : Int) = b.length - x) ∧ Aside0 (KeptRow w4 w' o b.length) ∧ Aside0 (0 < b.length → OwnCells w' o b.length) ∧ Aside0 (Below w.heap.size w w'))
  case atStart => exact ⟨0, rfl, ⟨by omega, by omega, by omega⟩, ⟨by first | exact HK0.out | exact ⟨pw_below_drewN HK0.out.1 _, HK0.out.2⟩⟩, ⟨fun hn => (HO4.out hn).2.2.2⟩, ⟨by first | exact HB4.out | exact pw_below_drewN HB4.out _⟩⟩
  case round =>
    clear HK0 HPR HU
    obtain ⟨x, rfl, HK, HKR, HOC, HB⟩ := hrel
    have hw : wrap64 (x + 1) = x + 1 := by have := HK.out; have := HBL.out; unfold wrap64; omega
    by_cases hlt : x < (b.length : Int)
    · have hn : 0 < b.length := by have := HK.out; omega
      obtain ⟨e1, e2, e3, _⟩ := HO4.out hn
      have HE2 := Aside0.mk e2
      obtain ⟨cs, hcs, hcv⟩ := HOC.out hn
      obtain ⟨v, hv⟩ := hcv x.toNat (by have := HK.out; omega)
      have hcell : wr.cell? ⟨o, x.toNat, none⟩ = some (.int .u8 v) := (blk_cell hcs x.toNat).trans hv
      have hfro : wr.frozen? ⟨o, x.toNat, none⟩ = false := blk_frozen hcs _
      have p1 := HK.out.1
      have HKK : Aside0 (0 ≤ x ∧ x < (b.length : Int) ∧ (gk : Int) = b.length - x) := ⟨by have := HK.out; omega⟩
      have HN := Aside0.mk hn
      have c0 : decide (x < (b.length : Int)) = true := decide_eq_true hlt
      have c1 : decide (0 ≤ x) = true := decide_eq_true p1
      have HO5 := Aside0.mk (OwnCells.set_ ⟨cs, hcs, hcv⟩ x.toNat)
      have HKR5 := Aside0.mk (fun u => KeptRow.set_ HKR.out hn x.toNat u)
      have HB5 := Aside0.mk (fun u => HB.out.setCell (p := ⟨o, x.toNat, none⟩) e2 u)
      replace p1 := eq_true p1
      have q1 := eq_true hlt
      subst e1
      clear e2 e3 hcs hcv hv hn HK HOC hlt
      go_wp2
      go_roundg (gk - 1)
      case measure => have := HKK.out; omega
      case rel => exact ⟨x + 1, rfl, ⟨by have := HKK.out; omega⟩, ⟨HKR5.out _⟩, ⟨fun _ => HO5.out _⟩, ⟨HB5.out _⟩⟩
    · have he : x = b.length := by have := HK.out; omega
      subst he
      have c0 : decide ((b.length : Int) < (b.length : Int)) = false := decide_eq_false (by omega)
      have ng : 0 < b.length → g ≠ o := fun hn => by have := (HO4.out hn).2.2.1; have := HG2.out; omega
      have nh : 0 < b.length → w3.heap.size ≠ o := fun hn => by have := (HO4.out hn).2.2.1; have := HB23.out.size; omega
      have Hg5 := Aside0.mk ((HKR.out.2 g (Nat.lt_trans HG3.out HW4.out) ng).trans Hg4.out)
      have Hh5 := Aside0.mk ((HKR.out.2 w3.heap.size HW4.out nh).trans Hh4.out)
      have HRA5 : Aside0 (ReadsInt wr .u8 A3 b.length b) := ⟨reads_blocks HR4.out (fun ad e hn hl => HKR.out.2 ad.block hl (fun _ => by have := (HF3.out ad e).2.1; have := (HO4.out hn).2.2.1; omega))⟩
      have HRB5 := Aside0.mk (ReadsInt.below HRB.out HB.out)
      have HHG : Aside0 (w3.heap.size ≠ g) := ⟨by have := HG3.out; omega⟩
      have HFA : Aside0 (∀ ad, A3 = some ad → 0 < b.length → ad.block ≠ g ∧ ad.block ≠ w3.heap.size) := ⟨fun ad e hn => ⟨(HF3.out ad e).1, by
        obtain ⟨_, _, cs, h⟩ := HF3.out ad e
        have := lt_of_get h
        omega⟩⟩
      have HFG : Aside0 (∀ ad, A3 = some ad → ad.block ≠ g) := ⟨fun ad e => (HF3.out ad e).1⟩
      have HFB : Aside0 (∀ ad, A = some ad → 0 < b.length → ad.block ≠ g ∧ ad.block ≠ w3.heap.size) := ⟨fun ad e hn => by
        obtain ⟨ad', e', h1⟩ := HRB.out.2.2 hn
        rw [e] at e'
        injection e' with e'
        subst e'
        have h2 := World.block_lt_of_cell? w _ (h1 0 hn)
        rw [add_block] at h2
        have := HG2.out
        have := HB2.out.size
        have := HB3.out.size
        exact ⟨by omega, by omega⟩⟩
      obtain ⟨h, hh⟩ : ∃ h, h = w3.heap.size := ⟨_, rfl⟩
      have HHI : Aside0 (w.heap.size ≤ h) := ⟨by rw [hh]; exact HB3.out.size⟩
      have HGI : Aside0 (w.heap.size ≤ g) := ⟨Nat.le_trans HB2.out.size HG2.out⟩
      rw [← hh] at Hh5 HHG HFA HFB
      rw [← hh]
      clear HK HKR HOC ng nh HF3 HR4 HRb4 HO4 HO2 Hg4 Hh4 HG2 HB2 HB23 HB24 HB3 HB4 HR3 Hb3 HG3 HW4 hh HB1 HRB1 hw
      go_wp2
      go_loopg [10] l.length (fun kq v10 w' => ∃ (x : Int) (bs : List Int) (bad : Bool) (AA : Option Addr) (ca : Nat) (AB : Option Addr) (cb : Nat), v10 = .int .i64 x ∧ Aside0 (0 ≤ x ∧ x ≤ (l.length : Int) ∧ (kq : Int) = l.length - x) ∧ Aside0 (w'.heap[g]? = some (.cells #[.slice AA bs.length ca, .bool bad] 70 (0, 0))) ∧ Aside0 (bs.length ≤ ca) ∧ Aside0 (ReadsInt w' .u8 AA bs.length bs) ∧ Aside0 (∀ ad, AA = some ad → ad.block ≠ g) ∧ Aside0 (∀ ad, AA = some ad → 0 < bs.length → ad.block ≠ g ∧ ad.block ≠ h) ∧ Aside0 (w'.heap[h]? = some (.cells #[.slice AB bs.length cb, .bool bad] 51 (0, 0))) ∧ Aside0 (bs.length ≤ cb) ∧ Aside0 (ReadsInt w' .u8 AB bs.length bs) ∧ Aside0 (∀ ad, AB = some ad → 0 < bs.length → ad.block ≠ g ∧ ad.block ≠ h) ∧ Aside0 (Bytes8 bs ∧ bs.length < 1000000000) ∧ Aside0 (Below w.heap.size w w'))
      case atStart => exact ⟨0, b, false, A3, c3, A, c, rfl, ⟨by omega, by omega, by omega⟩, Hg5, HC3, HRA5, HFG, HFA, Hh5, HCB, HRB5, HFB, ⟨H8.out, by have := HBL.out; omega⟩, ⟨by first | exact HB.out | exact pw_below_drewN HB.out _⟩⟩
      case round =>
        clear Hg5 Hh5 HRA5 HFG HFA HRB5 HFB HB H8 HC3 HCB
        obtain ⟨x, bs, bad, AA, ca, AB, cb, rfl, HK, Hg, HCa, HRa, HFG, HFA, Hh, HCb, HRb, HFB, H8, HB⟩ := hrel
        have hw : wrap64 (x + 1) = x + 1 := by have := HK.out; have := HLL.out; unfold wrap64; omega
        by_cases hlt : x < (l.length : Int)
        · have p1 := HK.out.1
          have q1 := hlt
          obtain ⟨ad, e1, hx0, hx1, hx2, hx3, hx4⟩ := at_T27 (Kd.C_below HR.out HB.out) x p1 q1
          cases e1
          generalize rd_T27 l x = y at *
          have HKK : Aside0 (0 ≤ x ∧ x < (l.length : Int) ∧ (gk : Int) = l.length - x) := ⟨by have := HK.out; omega⟩
          have c0 : decide (x < (l.length : Int)) = true := decide_eq_true hlt
          have c1 : decide (0 ≤ x) = true := decide_eq_true p1
          replace p1 := eq_true p1
          replace q1 := eq_true q1
          have HRD := Aside0.mk (reads_calls g h AA AB ca cb wr bs bad y Hg.out HCa.out HRa.out HFG.out Hh.out HCb.out HRb.out (fun ad e hn => (HFB.out ad e hn).1) HHG.out H8.out.1 H8.out.2)
          obtain ⟨bs', bad', hF⟩ : ∃ bs' bad', readsF y bs bad = (bs', bad') := ⟨_, _, rfl⟩
          have hsub : ∃ k, bs' = bs.drop k := by have := readsF_sub y bs bad; rw [hF] at this; exact this
          have HSB := Aside0.mk (sub_bytes hsub)
          rw [hF] at HRD
          have hu27 := Try.underlying27
          clear hlt HK hF hsub
          go_wp2_with (first | (go_at_call 32; refine HRD.out.mono ?_; rintro e w5 ⟨rfl, AA', ca', AB', cb', r1, r2, r3, r4, r5, r6, r7, r8, r9, r10⟩; have R1 := Aside0.mk r1; have R2 := Aside0.mk r2; have R3 := Aside0.mk r3; have R4 := Aside0.mk r4; have R5 := Aside0.mk r5; have R6 := Aside0.mk r6; have R7 := Aside0.mk r7; have R8 := Aside0.mk r8; have R9 := Aside0.mk r9; have R10 := Aside0.mk r10; clear r1 r2 r3 r4 r5 r6 r7 r8 r9 r10))
          have HRa5 := Aside0.mk (R3.out w5 (reads_blocks HRa.out (fun ad e hn hl => R10.out ad.block hl (HFA.out ad e hn).1 (HFA.out ad e hn).2)))
          have HRb5 := Aside0.mk (R7.out w5 (reads_blocks HRb.out (fun ad e hn hl => R10.out ad.block hl (HFB.out ad e hn).1 (HFB.out ad e hn).2)))
          have HFG5 := Aside0.mk (R4.out g HFG.out)
          have HFA5 : Aside0 (∀ ad, AA' = some ad → 0 < bs'.length → ad.block ≠ g ∧ ad.block ≠ h) := ⟨fun ad e hn => by
            have hn2 : 0 < bs.length := Nat.lt_of_lt_of_le hn HSB.out.2
            exact ⟨R4.out g (fun ad e => (HFA.out ad e hn2).1) ad e, R4.out h (fun ad e => (HFA.out ad e hn2).2) ad e⟩⟩
          have HFB5 : Aside0 (∀ ad, AB' = some ad → 0 < bs'.length → ad.block ≠ g ∧ ad.block ≠ h) := ⟨fun ad e hn => by
            have hn2 : 0 < bs.length := Nat.lt_of_lt_of_le hn HSB.out.2
            exact ⟨R8.out g (fun ad e => (HFB.out ad e hn2).1) ad e, R8.out h (fun ad e => (HFB.out ad e hn2).2) ad e⟩⟩
          have HB5 : Aside0 (Below w.heap.size w w5) := ⟨⟨R9.out.os.trans HB.out.os, R9.out.tape.trans HB.out.tape, R9.out.output.trans HB.out.output, Nat.le_trans HB.out.size R9.out.size, fun i hi => (R10.out i (Nat.lt_of_lt_of_le hi HB.out.size) (by have := HGI.out; omega) (by have := HHI.out; omega)).trans (HB.out.block i hi)⟩⟩
          go_roundg (gk - 1)
          case measure => have := HKK.out; omega
          case rel => exact ⟨wrap64 (x + 1), bs', bad', AA', ca', AB', cb', rfl, ⟨by rw [hw]; have := HKK.out; omega⟩, R1, R2, HRa5, HFG5, HFA5, R5, R6, HRb5, HFB5, ⟨HSB.out.1 H8.out.1, by have := HSB.out.2; have := H8.out.2; omega⟩, HB5⟩
        · have he : x = l.length := by have := HK.out; omega
          subst he
          have c0 : decide ((l.length : Int) < (l.length : Int)) = false := decide_eq_false (by omega)
          clear HK hlt
          go_wp2
          go_ret
          exact ⟨rfl, HB.out⟩
end Go.Proofs.Ytnlbmhojjjjpdaa.Pk
