/- The contract of pack's Writer.Int. -/
import Derived.Test.YtnlbmhojjjjpdaaPackA
import Derived.Test.YtnlbmhojjjjpdaaPackEnc
import Derived.Deep.RegionLaw
namespace Go.Proofs.Ytnlbmhojjjjpdaa.Pk
open Go.RowKit Go.Proofs.YtnlbmhojjjjpdaaW.PrintWords Go.Proofs.YtnlbmhojjjjpdaaW.PrintLast Go.Proofs.YtnlbmhojjjjpdaaW.PrintMore
set_option linter.unusedVariables false
set_option linter.unusedSimpArgs false
set_option maxHeartbeats 4000000 in
set_option maxRecDepth 100000 in
theorem Writer_Int (g : Nat) (W w : World) (bs : List Int) (n : Int) (hB : Below W.heap.size W w) (hI : IsW W g w bs) (hl : bs.length < 1000000000) (h0 : -9223372036854775808 ≤ n) (h1 : n ≤ 9223372036854775807) :
    Calls Try.prog 20 #[.pointer (some ⟨g, 0, none⟩), .int .i64 n] w fun e w' => e = .returned (.tuple #[]) ∧ IsW W g w' (bs ++ enc n) ∧ Below W.heap.size W w' := by
  obtain ⟨hg, v, hb, ho⟩ := hI
  obtain ⟨A, c, rfl⟩ := own_slice ho
  have hcell : w.cell? ⟨g, 0, none⟩ = some (.slice A bs.length c) := (blk_cell hb 0).trans rfl
  have HO := Aside0.mk ho
  have HB := Aside0.mk hB
  have Hb := Aside0.mk hb
  have HG := Aside0.mk hg
  have HL := Aside0.mk hl
  have hne := Aside0.mk (own_ne ho hb (by decide))
  clear ho hB hb hg hl
  go_enter Try.func20, Try.ntmps20
  have hzz := zz_bits n h0 h1
  have hez := Aside0.mk (Enc_zero n h0 h1)
  obtain ⟨u0, hu0⟩ : ∃ u0, u0 = zz n := ⟨_, rfl⟩
  rw [← hu0] at hzz hez
  clear hu0 h0 h1
  go_wp2_with (fail)
  clear hzz
  obtain ⟨W0, hW0⟩ : ∃ W0, W0 = w.alloc (Obj.cells #[Value.int IntKind.u8 0, Value.int IntKind.u8 0, Value.int IntKind.u8 0, Value.int IntKind.u8 0, Value.int IntKind.u8 0, Value.int IntKind.u8 0, Value.int IntKind.u8 0, Value.int IntKind.u8 0, Value.int IntKind.u8 0, Value.int IntKind.u8 0] 65) := ⟨_, rfl⟩
  rw [← hW0]
  have HB0 : Aside0 (Below w.heap.size w W0) := ⟨by rw [hW0]; exact below_alloc (Below.refl _ w) _⟩
  have HP0 : Aside0 (W0.heap[w.heap.size]? = some (.cells (nums .u8 [0, 0, 0, 0, 0, 0, 0, 0, 0, 0]).toArray 65 (0, 0))) := ⟨by rw [hW0]; exact heap_alloc_new w _⟩
  clear hW0 hcell
  go_loopg [5, 6] 9 (fun kq v5 v6 w' => ∃ (u k : Int) (ps : List Int), v5 = .int .u64 u ∧ v6 = .int .i64 k ∧ Aside0 (0 ≤ k ∧ k ≤ 9 ∧ (kq : Int) = 9 - k) ∧ Aside0 (Enc n k u ps) ∧ Aside0 (w'.heap[w.heap.size]? = some (.cells (nums .u8 ps).toArray 65 (0, 0))) ∧ Aside0 (Below w.heap.size w w'))
  case atStart => exact ⟨u0, 0, _, rfl, rfl, ⟨by omega, by omega, by omega⟩, hez, HP0, HB0⟩
  case round =>
    clear HP0 HB0 hez
    obtain ⟨u, k, ps, rfl, rfl, HK, HE, HP, HW⟩ := hrel
    have hk0 := HK.out.1
    have hk9 := HK.out.2.1
    have hu0 := HE.out.2.1
    have hu1 := Enc_u64 HE.out hk0 hk9
    have hlen := HE.out.1
    have hpc : wr.cell? ⟨w.heap.size, k.toNat, none⟩ = some (.int .u8 (rd ps k)) := (blk_cell HP.out k.toNat).trans ((nums8_at ps k.toNat (by omega)).trans (by rw [Int.toNat_of_nonneg hk0]))
    have hpf : wr.frozen? ⟨w.heap.size, k.toNat, none⟩ = false := blk_frozen HP.out _
    have hw8 := wrap8 u
    by_cases hlt : 127 < u
    · have HLT := Aside0.mk hlt
      have c1 : decide (127 < u) = true := decide_eq_true hlt
      have hor := or128 (u % 256) (by omega) (by omega)
      rw [show u % 256 % 128 = u % 128 from by omega] at hor
      have hk9' := Enc_lt HE.out hk0 hk9 hlt
      have HST := Aside0.mk (Enc_step HE.out hk0 hk9 hlt)
      have HP2 := Aside0.mk (blk_set HP.out k.toNat (.int .u8 (u % 128 + 128)))
      rw [nums8_set] at HP2
      have HW2 := Aside0.mk (HW.out.setCell (p := ⟨w.heap.size, k.toNat, none⟩) (Nat.le_refl _) (.int .u8 (u % 128 + 128)))
      have ck0 : decide (0 ≤ k) = true := decide_eq_true hk0
      have ck1 : decide (k < 10) = true := decide_eq_true (by omega)
      clear hlt hlen HE HP HW
      go_wp2
      go_roundg (9 - (k + 1)).toNat
      case measure => have := HK.out; omega
      case rel => exact ⟨u / 128, k + 1, _, rfl, rfl, ⟨by omega, by omega, by omega⟩, HST, HP2, HW2⟩
    · have HLT := Aside0.mk hlt
      have c1 : decide (127 < u) = false := decide_eq_false hlt
      have hu8 : u % 256 = u := by omega
      obtain ⟨he1, he2, he3⟩ := Enc_last HE.out hk0 hk9 hlt
      have HP2 := Aside0.mk (blk_set HP.out k.toNat (.int .u8 u))
      rw [nums8_set] at HP2
      have HW2 := Aside0.mk (HW.out.setCell (p := ⟨w.heap.size, k.toNat, none⟩) (Nat.le_refl _) (.int .u8 u))
      have ck0 : decide (0 ≤ k) = true := decide_eq_true hk0
      have ck1 : decide (k < 10) = true := decide_eq_true (by omega)
      have HE1 := Aside0.mk he1
      have HE2 := Aside0.mk he2
      have HE3 := Aside0.mk he3
      clear hlt hlen HE HP HW he1 he2 he3
      go_wp2
      obtain ⟨w2, hw2⟩ : ∃ w2, w2 = wr.setCell ⟨w.heap.size, k.toNat, none⟩ (.int .u8 u) := ⟨_, rfl⟩
      rw [← hw2] at HP2 HW2
      rw [← hw2]
      clear hw2 hpc hpf
      have HWd := Aside0.mk (below_drew HW2.out)
      have HOd := Aside0.mk (pw_own_below HO.out HWd.out)
      have Hbd := Aside0.mk ((HWd.out.block g (blk_lt Hb.out)).trans Hb.out)
      have hcd : w2.cell? ⟨g, 0, none⟩ = some (.slice A bs.length c) := (blk_cell (show w2.heap[g]? = _ from Hbd.out) 0).trans rfl
      have hel := enc_len n
      have hn1 : Aside0 ((nums .u8 (enc n)).length = (k + 1).toNat * 1) := ⟨by rw [nums_length, HE3.out, Nat.mul_one]⟩
      have hn2 : Aside0 (∀ j u', (nums .u8 (enc n))[j]? = some u' → w2.drew.cell? ((⟨w.heap.size, 0, none⟩ : Addr).add j) = some u') := ⟨fun j u' hj => by
        rw [add_plain]
        refine (blk_cell (show w2.drew.heap[w.heap.size]? = _ from HP2.out) j).trans ?_
        rw [← HE1.out] at hj
        have hj2 : j < (nums .u8 ((ps.set k.toNat u).take (k + 1).toNat)).length := (List.getElem?_eq_some_iff.1 hj).1
        rw [nums_length, List.length_take] at hj2
        rw [← hj]
        simp only [nums, List.map_take]
        rw [List.getElem?_take_of_lt (by omega)]
        simp⟩
      have hn3 : Aside0 (∀ u' ∈ nums .u8 (enc n), u'.oneCell' = true) := ⟨fun u' hu' => by
        obtain ⟨x, _, rfl⟩ := List.mem_map.1 hu'
        rfl⟩
      have hb0 : Aside0 (W.heap.size ≤ w2.drew.heap.size) := ⟨by have := HB.out.size; have := HWd.out.size; omega⟩
      have hln : Aside0 (bs.length + (k + 1).toNat ≤ 2000000000) := ⟨by have := HL.out; omega⟩
      have hm0 : Aside0 (0 < (k + 1).toNat) := ⟨by omega⟩
      have hwk : IntKind.i64.wrap (k + 1) = k + 1 := by rw [IntKind.wrap_i64]; omega
      have hp0 : (0 : Int) ≤ k + 1 := by omega
      have hp1 : k + 1 ≤ 10 := by omega
      obtain ⟨i0, hi, hz0, hz1, hz2⟩ := info_parts info5
      have Hi := Aside0.mk hi
      have Hz0 := Aside0.mk hz0
      have Hz1 := Aside0.mk hz1
      have Hz2 := Aside0.mk hz2
      clear hi hz0 hz1 hz2 hel hw8 hu8
      go_region_law (refine step_append_lies _ rfl (.tmp 33) (.tmp 36) 25 rfl W.heap.size 5 i0 (.int .u8 0) 1 1 Try.underlying25 Hi.out Hz0.out Hz1.out Hz2.out rfl (by decide) (.slice A bs.length c) bs.length (nums .u8 bs) (by simp [Act.eval, Act.put]) HOd.out ⟨w.heap.size, 0, none⟩ (k + 1).toNat 10 (nums .u8 (enc n)) (by simp [Act.eval, Act.put]) hn1.out hn2.out hn3.out hm0.out (by have := hln.out; unfold maxLen; omega) (by have := hln.out; omega) hb0.out _ rfl ?_; intro g1 cap1 w1 hown hg1 hat hlt1; have hbb := blk_grown Hbd.out hg1 hne.out; have hc1 : w1.cell? ⟨g, 0, none⟩ = some (.slice A bs.length c) := (blk_cell hbb 0).trans rfl; have hf1 : w1.frozen? ⟨g, 0, none⟩ = false := blk_frozen hbb 0; have HO1 := Aside0.mk hown; have HG1 := Aside0.mk hg1; have Hb1 := Aside0.mk hbb; clear hown hg1 hbb hat hlt1)
      all_goals go_wp2
      all_goals (first | go_end0 | ((try simp only [Exit.inBlock, Exit.then]); refine bodyPost_ret (results_none rfl _ _ _) rfl ?_))
      all_goals exact ⟨rfl, IsW.stored HG.out Hb1.out (by rw [nums_append, List.length_append, HE3.out]; exact HO1.out), (pw_below_grown (below_then HB.out HB.out.size HWd.out) _ hb0.out HG1.out (own_base HOd.out)).setCell HG.out _⟩
end Go.Proofs.Ytnlbmhojjjjpdaa.Pk
