/- The document's Int, Bool, Text on an own row of bytes. -/
import Derived.Test.YtnlbmhojjjjpdaaPackO
namespace Go.Proofs.Ytnlbmhojjjjpdaa.Pk
open Go.RowKit Go.Proofs.YtnlbmhojjjjpdaaW.PrintWords Go.Proofs.YtnlbmhojjjjpdaaW.PrintLast Go.Proofs.YtnlbmhojjjjpdaaW.PrintMore
set_option linter.unusedVariables false
set_option linter.unusedSimpArgs false
/-- What a call leaves that returns an own row. -/
def OwnPost (W : World) (bs : List Int) (e : Ending) (w' : World) : Prop := ∃ v, e = .returned v ∧ w'.ownsRow W.heap.size 5 1 v bs.length (nums .u8 bs) ∧ Below W.heap.size W w'
set_option maxHeartbeats 4000000 in
set_option maxRecDepth 100000 in
theorem ref_Bool (W w : World) (v : Value) (bs : List Int) (b : Bool) (hB : Below W.heap.size W w) (ho : w.ownsRow W.heap.size 5 1 v bs.length (nums .u8 bs)) (hl : bs.length < 1000000000) :
    Calls Try.prog 18 #[v, .bool b] w (OwnPost W (bs ++ [bitI b])) := by
  obtain ⟨A, c, rfl⟩ := own_slice ho
  have HO := Aside0.mk ho
  have HB := Aside0.mk hB
  have HL := Aside0.mk hl
  clear ho hB hl
  cases b with
  | true =>
    go_enter Try.func18, Try.ntmps18
    go_wp2_with (at_builtin; refine print_append_num (w0 := W) W.heap.size rfl (.tmp 6) (.tmp 7) 25 5 .u8 1 rfl Try.underlying25 info5 (by decide) _ bs 1 rfl rfl HO.out HB.out HB.out.size (by have := HL.out; omega) ?_; intro v1 w1 hown hb1 hg1 _; obtain ⟨A1, c1, rfl⟩ := own_slice hown; have HO1 := Aside0.mk hown; have HB1 := Aside0.mk hb1; clear hown hb1 hg1)
    go_ret
    exact ⟨_, rfl, by simpa [bitI] using HO1.out, HB1.out⟩
  | false =>
    go_enter Try.func18, Try.ntmps18
    go_wp2_with (at_builtin; refine print_append_num (w0 := W) W.heap.size rfl (.tmp 9) (.tmp 10) 25 5 .u8 1 rfl Try.underlying25 info5 (by decide) _ bs 0 rfl rfl HO.out HB.out HB.out.size (by have := HL.out; omega) ?_; intro v1 w1 hown hb1 hg1 _; obtain ⟨A1, c1, rfl⟩ := own_slice hown; have HO1 := Aside0.mk hown; have HB1 := Aside0.mk hb1; clear hown hb1 hg1)
    go_ret
    exact ⟨_, rfl, by simpa [bitI] using HO1.out, HB1.out⟩
/-- The number's groups from k on. -/
theorem enc_start (n : Int) (m : Bool) (n1 : Int) (h : n1 = if m = true then -1 - n else n) (hm : m = decide (n < 0)) (h0 : -9223372036854775808 ≤ n) (h1 : n ≤ 9223372036854775807) :
    0 ≤ n1 ∧ n1 ≤ 9223372036854775807 ∧ enc n = encF 9 (2 * (n1 % 64) + (if m = true then 1 else 0) + 128 * (n1 / 64)) := by
  subst hm
  by_cases hn : n < 0
  · rw [decide_eq_true hn] at h ⊢
    simp only [if_true] at h ⊢
    refine ⟨by omega, by omega, ?_⟩
    unfold enc zz; rw [if_neg (by omega)]; congr 1; omega
  · rw [decide_eq_false hn] at h ⊢
    simp only [Bool.false_eq_true, if_false] at h ⊢
    refine ⟨by omega, by omega, ?_⟩
    unfold enc zz; rw [if_pos (by omega)]; congr 1; omega
theorem enc_round (k : Nat) (low n2 : Int) (hk : k < 9) (h0 : 0 ≤ low) (h1 : low < 128) (hn : 0 < n2) : encF (9 - k) (low + 128 * n2) = (low + 128) :: encF (9 - (k + 1)) (n2 % 128 + 128 * (n2 / 128)) := by
  rw [show 9 - k = (9 - (k + 1)) + 1 from by omega, encF, if_pos (by omega), show (low + 128 * n2) % 128 + 128 = low + 128 from by omega, show (low + 128 * n2) / 128 = n2 % 128 + 128 * (n2 / 128) from by omega]
theorem enc_end (k : Nat) (low : Int) (h0 : 0 ≤ low) (h1 : low < 128) : encF (9 - k) (low + 128 * 0) = [low] := by
  cases h : 9 - k with
  | zero => rw [encF]; simp
  | succ f => rw [encF, if_neg (by omega)]; simp
theorem top_lt (k : Nat) (hk : k < 9) : top k = top (k + 1) * 128 := by
  have : k = 0 ∨ k = 1 ∨ k = 2 ∨ k = 3 ∨ k = 4 ∨ k = 5 ∨ k = 6 ∨ k = 7 ∨ k = 8 := by omega
  rcases this with rfl | rfl | rfl | rfl | rfl | rfl | rfl | rfl | rfl <;> decide
theorem top_num (k : Nat) (hk : k ≤ 9) : top k ≤ 18446744073709551616 := by
  have : k = 0 ∨ k = 1 ∨ k = 2 ∨ k = 3 ∨ k = 4 ∨ k = 5 ∨ k = 6 ∨ k = 7 ∨ k = 8 ∨ k = 9 := by omega
  rcases this with rfl | rfl | rfl | rfl | rfl | rfl | rfl | rfl | rfl | rfl <;> decide
set_option maxHeartbeats 4000000 in
set_option maxRecDepth 100000 in
theorem ref_Int (W w : World) (v : Value) (bs : List Int) (n : Int) (hB : Below W.heap.size W w) (ho : w.ownsRow W.heap.size 5 1 v bs.length (nums .u8 bs)) (hl : bs.length < 900000000) (h0 : -9223372036854775808 ≤ n) (h1 : n ≤ 9223372036854775807) :
    Calls Try.prog 17 #[v, .int .i64 n] w (OwnPost W (bs ++ enc n)) := by
  obtain ⟨m, hm⟩ : ∃ m, m = decide (n < 0) := ⟨_, rfl⟩
  obtain ⟨n1, hn1⟩ : ∃ n1, n1 = if m = true then -1 - n else n := ⟨_, rfl⟩
  obtain ⟨e0, e1, e2⟩ := enc_start n m n1 hn1 hm h0 h1
  have HO := Aside0.mk ho
  have HB := Aside0.mk hB
  have HL := Aside0.mk hl
  have HE := Aside0.mk e2
  clear ho hB hl e2
  have HN1 : Aside0 (0 ≤ n1 ∧ n1 ≤ 9223372036854775807) := ⟨e0, e1⟩
  obtain ⟨low0, hlow⟩ : ∃ low0, low0 = 2 * (n1 % 64) + (if m = true then 1 else 0) := ⟨_, rfl⟩
  have HL0 : Aside0 (0 ≤ low0 ∧ low0 < 128) := ⟨by rw [hlow]; split <;> omega⟩
  rw [← hlow] at HE
  have HT0 : Aside0 (low0 + 128 * (n1 / 64) < top 0) := ⟨by show _ < (18446744073709551616 : Int); have := HL0.out; omega⟩
  cases m with
  | true =>
    rw [if_pos rfl] at hn1 hlow
    have hp : 0 ≤ -1 - n := by omega
    have dm : decide (n < 0) = true := hm.symm
    have hw1 : wrap64 (-1 - n) = -1 - n := by unfold wrap64; omega
    have hw2 : wrap64 (2 * ((-1 - n) % 64)) = 2 * ((-1 - n) % 64) := by unfold wrap64; omega
    have hw3 : wrap64 (2 * ((-1 - n) % 64) + 1) = 2 * ((-1 - n) % 64) + 1 := by unfold wrap64; omega
    clear hm
    go_enter Try.func17, Try.ntmps17
    go_wp2
    go_loopg [0, 1, 6] 9 (fun kq v0 v1 v6 w' => ∃ (cur : List Int) (k : Nat) (low n2 : Int), v1 = .int .i64 n2 ∧ v6 = .int .i64 low ∧ Aside0 (k ≤ 9 ∧ kq + k = 9) ∧ Aside0 (0 ≤ low ∧ low < 128 ∧ 0 ≤ n2 ∧ low + 128 * n2 < top k) ∧ Aside0 (cur ++ encF (9 - k) (low + 128 * n2) = bs ++ enc n) ∧ Aside0 (w'.ownsRow W.heap.size 5 1 v0 cur.length (nums .u8 cur)) ∧ Aside0 (Below W.heap.size W w'))
    case atStart => exact ⟨bs, 0, low0, n1 / 64, by congr 1; omega, by congr 1; omega, ⟨by omega, by omega⟩, ⟨by have := HL0.out; have := HN1.out; have := HT0.out; omega⟩, ⟨by rw [HE.out]⟩, HO, HB⟩
    case round =>
      clear HO HB HE HT0 HL0 HN1 hp dm hw2 hlow hn1
      obtain ⟨cur, k, low, n2, rfl, rfl, HK, HV, HC, HO1, HB1⟩ := hrel
      have ho1 := HO1.out
      obtain ⟨A, c, rfl⟩ := own_slice ho1
      clear ho1
      have hlen := congrArg List.length HC.out
      have he1 := (encF_len (9 - k) (low + 128 * n2)).1
      have he2 := (enc_len n).2
      simp only [List.length_append] at hlen
      have HLc : Aside0 (cur.length < 900000010) := ⟨by have := HL.out; omega⟩
      have hv1 := HV.out.1
      have hv2 := HV.out.2.1
      have hv3 := HV.out.2.2.1
      clear hlen he1 he2
      by_cases hpos : 0 < n2
      · have d1 : decide (n2 > 0) = true := decide_eq_true hpos
        have hk9 : k < 9 := by
          rcases Nat.lt_or_ge k 9 with h | h
          · exact h
          · have : k = 9 := by have := HK.out; omega
            have h2 := HV.out.2.2.2
            rw [this, top_9] at h2; omega
        have HS : Aside0 (cur ++ [low + 128] ++ encF (9 - (k + 1)) (n2 % 128 + 128 * (n2 / 128)) = bs ++ enc n) := ⟨by rw [List.append_assoc, List.singleton_append, ← enc_round k low n2 hk9 hv1 hv2 hpos]; exact HC.out⟩
        have HV2 : Aside0 (0 ≤ n2 % 128 ∧ n2 % 128 < 128 ∧ 0 ≤ n2 / 128 ∧ n2 % 128 + 128 * (n2 / 128) < top (k + 1)) := ⟨by have := top_lt k hk9; have := HV.out; omega⟩
        have HK9 := Aside0.mk hk9
        have HNB : Aside0 (0 ≤ n2 ∧ n2 < 9223372036854775808) := ⟨by have := top_num k HK.out.1; have := HV.out; omega⟩
        have hw5 : wrap64 (low + 128) = low + 128 := by unfold wrap64; omega
        have hw6 : (low + 128) % 256 = low + 128 := by omega
        have hw7 : IntKind.u8.wrap (low + 128) = low + 128 := by rw [wrap8]; omega
        clear hpos hk9
        go_wp2_with (first | (at_builtin; refine print_append_num (w0 := W) W.heap.size rfl (.tmp 23) (.tmp 27) 25 5 .u8 1 rfl Try.underlying25 info5 (by decide) _ cur (low + 128) rfl rfl HO1.out HB1.out HB1.out.size (by have := HLc.out; omega) ?_; intro v1 w1 hown hb1 hg1 _; obtain ⟨A1, c1, rfl⟩ := own_slice hown; have HO2 := Aside0.mk hown; have HB2 := Aside0.mk hb1; clear hown hb1 hg1))
        go_roundg (gk - 1)
        case measure => have := HK.out; have := HK9.out; omega
        case rel => exact ⟨cur ++ [low + 128], k + 1, n2 % 128, n2 / 128, by first | rfl | exact congrArg (Value.int .i64) (by rw [Int.tdiv_eq_ediv_of_nonneg HNB.out.1]; unfold wrap64; have := HNB.out; omega), by first | rfl | exact congrArg (Value.int .i64) (by rw [Int.tmod_eq_emod_of_nonneg HNB.out.1]) | exact congrArg (Value.int .i64) (by rw [Int.tmod_eq_emod_of_nonneg HNB.out.1]; unfold wrap64; have := HNB.out; omega), ⟨by have := HK9.out; omega, by have := HK.out; have := HK9.out; omega⟩, HV2, HS, ⟨by simpa using HO2.out⟩, HB2⟩
      · have hz : n2 = 0 := by omega
        subst hz
        have d1 : decide ((0 : Int) > 0) = false := by decide
        have HS : Aside0 (cur ++ [low] = bs ++ enc n) := ⟨by rw [← enc_end k low hv1 hv2]; exact HC.out⟩
        have hw6 : low % 256 = low := by omega
        have hw7 : IntKind.u8.wrap low = low := by rw [wrap8]; omega
        clear hpos
        go_wp2_with (first | (at_builtin; refine print_append_num (w0 := W) W.heap.size rfl (.tmp 33) (.tmp 36) 25 5 .u8 1 rfl Try.underlying25 info5 (by decide) _ cur (low) rfl rfl HO1.out HB1.out HB1.out.size (by have := HLc.out; omega) ?_; intro v1 w1 hown hb1 hg1 _; obtain ⟨A1, c1, rfl⟩ := own_slice hown; have HO2 := Aside0.mk hown; have HB2 := Aside0.mk hb1; clear hown hb1 hg1))
        go_ret
        exact ⟨_, rfl, by rw [← HS.out]; simpa using HO2.out, HB2.out⟩
  | false =>
    rw [if_neg (by decide)] at hn1 hlow
    have hp : 0 ≤ n := by omega
    have dm : decide (n < 0) = false := hm.symm
    have hw2 : wrap64 (2 * (n % 64)) = 2 * (n % 64) := by unfold wrap64; omega
    clear hm
    go_enter Try.func17, Try.ntmps17
    go_wp2
    go_loopg [0, 1, 6] 9 (fun kq v0 v1 v6 w' => ∃ (cur : List Int) (k : Nat) (low n2 : Int), v1 = .int .i64 n2 ∧ v6 = .int .i64 low ∧ Aside0 (k ≤ 9 ∧ kq + k = 9) ∧ Aside0 (0 ≤ low ∧ low < 128 ∧ 0 ≤ n2 ∧ low + 128 * n2 < top k) ∧ Aside0 (cur ++ encF (9 - k) (low + 128 * n2) = bs ++ enc n) ∧ Aside0 (w'.ownsRow W.heap.size 5 1 v0 cur.length (nums .u8 cur)) ∧ Aside0 (Below W.heap.size W w'))
    case atStart => exact ⟨bs, 0, low0, n1 / 64, by congr 1; omega, by congr 1; omega, ⟨by omega, by omega⟩, ⟨by have := HL0.out; have := HN1.out; have := HT0.out; omega⟩, ⟨by rw [HE.out]⟩, HO, HB⟩
    case round =>
      clear HO HB HE HT0 HL0 HN1 hp dm hw2 hlow hn1
      obtain ⟨cur, k, low, n2, rfl, rfl, HK, HV, HC, HO1, HB1⟩ := hrel
      have ho1 := HO1.out
      obtain ⟨A, c, rfl⟩ := own_slice ho1
      clear ho1
      have hlen := congrArg List.length HC.out
      have he1 := (encF_len (9 - k) (low + 128 * n2)).1
      have he2 := (enc_len n).2
      simp only [List.length_append] at hlen
      have HLc : Aside0 (cur.length < 900000010) := ⟨by have := HL.out; omega⟩
      have hv1 := HV.out.1
      have hv2 := HV.out.2.1
      have hv3 := HV.out.2.2.1
      clear hlen he1 he2
      by_cases hpos : 0 < n2
      · have d1 : decide (n2 > 0) = true := decide_eq_true hpos
        have hk9 : k < 9 := by
          rcases Nat.lt_or_ge k 9 with h | h
          · exact h
          · have : k = 9 := by have := HK.out; omega
            have h2 := HV.out.2.2.2
            rw [this, top_9] at h2; omega
        have HS : Aside0 (cur ++ [low + 128] ++ encF (9 - (k + 1)) (n2 % 128 + 128 * (n2 / 128)) = bs ++ enc n) := ⟨by rw [List.append_assoc, List.singleton_append, ← enc_round k low n2 hk9 hv1 hv2 hpos]; exact HC.out⟩
        have HV2 : Aside0 (0 ≤ n2 % 128 ∧ n2 % 128 < 128 ∧ 0 ≤ n2 / 128 ∧ n2 % 128 + 128 * (n2 / 128) < top (k + 1)) := ⟨by have := top_lt k hk9; have := HV.out; omega⟩
        have HK9 := Aside0.mk hk9
        have HNB : Aside0 (0 ≤ n2 ∧ n2 < 9223372036854775808) := ⟨by have := top_num k HK.out.1; have := HV.out; omega⟩
        have hw5 : wrap64 (low + 128) = low + 128 := by unfold wrap64; omega
        have hw6 : (low + 128) % 256 = low + 128 := by omega
        have hw7 : IntKind.u8.wrap (low + 128) = low + 128 := by rw [wrap8]; omega
        clear hpos hk9
        go_wp2_with (first | (at_builtin; refine print_append_num (w0 := W) W.heap.size rfl (.tmp 23) (.tmp 27) 25 5 .u8 1 rfl Try.underlying25 info5 (by decide) _ cur (low + 128) rfl rfl HO1.out HB1.out HB1.out.size (by have := HLc.out; omega) ?_; intro v1 w1 hown hb1 hg1 _; obtain ⟨A1, c1, rfl⟩ := own_slice hown; have HO2 := Aside0.mk hown; have HB2 := Aside0.mk hb1; clear hown hb1 hg1))
        go_roundg (gk - 1)
        case measure => have := HK.out; have := HK9.out; omega
        case rel => exact ⟨cur ++ [low + 128], k + 1, n2 % 128, n2 / 128, by first | rfl | exact congrArg (Value.int .i64) (by rw [Int.tdiv_eq_ediv_of_nonneg HNB.out.1]; unfold wrap64; have := HNB.out; omega), by first | rfl | exact congrArg (Value.int .i64) (by rw [Int.tmod_eq_emod_of_nonneg HNB.out.1]) | exact congrArg (Value.int .i64) (by rw [Int.tmod_eq_emod_of_nonneg HNB.out.1]; unfold wrap64; have := HNB.out; omega), ⟨by have := HK9.out; omega, by have := HK.out; have := HK9.out; omega⟩, HV2, HS, ⟨by simpa using HO2.out⟩, HB2⟩
      · have hz : n2 = 0 := by omega
        subst hz
        have d1 : decide ((0 : Int) > 0) = false := by decide
        have HS : Aside0 (cur ++ [low] = bs ++ enc n) := ⟨by rw [← enc_end k low hv1 hv2]; exact HC.out⟩
        have hw6 : low % 256 = low := by omega
        have hw7 : IntKind.u8.wrap low = low := by rw [wrap8]; omega
        clear hpos
        go_wp2_with (first | (at_builtin; refine print_append_num (w0 := W) W.heap.size rfl (.tmp 33) (.tmp 36) 25 5 .u8 1 rfl Try.underlying25 info5 (by decide) _ cur (low) rfl rfl HO1.out HB1.out HB1.out.size (by have := HLc.out; omega) ?_; intro v1 w1 hown hb1 hg1 _; obtain ⟨A1, c1, rfl⟩ := own_slice hown; have HO2 := Aside0.mk hown; have HB2 := Aside0.mk hb1; clear hown hb1 hg1))
        go_ret
        exact ⟨_, rfl, by rw [← HS.out]; simpa using HO2.out, HB2.out⟩
end Go.Proofs.Ytnlbmhojjjjpdaa.Pk
