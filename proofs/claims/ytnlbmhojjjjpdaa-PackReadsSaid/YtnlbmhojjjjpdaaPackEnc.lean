/- The bytes of a number, as pack lays them down; plain. -/
import Derived.Test.YtnlbmhojjjjpdaaPk0
import Derived.Laws.Bits64
import Derived.Laws.BitsLemmas
namespace Go.Proofs.Ytnlbmhojjjjpdaa.Pk
open Go.RowKit Go.Proofs.YtnlbmhojjjjpdaaW.PrintWords Go.Proofs.YtnlbmhojjjjpdaaW.PrintLast Go.Proofs.YtnlbmhojjjjpdaaW.PrintMore
set_option linter.unusedVariables false
set_option linter.unusedSimpArgs false

/-- A number without its sign, doubled. -/
def zz (n : Int) : Int := if 0 ≤ n then 2 * n else -2 * n - 1
/-- Its groups of seven bits, the lowest first. -/
def encF : Nat → Int → List Int
  | 0, u => [u]
  | f + 1, u => if 127 < u then (u % 128 + 128) :: encF f (u / 128) else [u]
def enc (n : Int) : List Int := encF 9 (zz n)
theorem zz_range (n : Int) (h0 : -9223372036854775808 ≤ n) (h1 : n ≤ 9223372036854775807) : 0 ≤ zz n ∧ zz n < 18446744073709551616 := by unfold zz; split <;> omega
/-- What 2^(64-7k) is, from k on: how far the number goes behind k groups. -/
def top : Nat → Int
  | 0 => 18446744073709551616
  | k + 1 => top k / 128
theorem top_9 : top 9 = 2 := by decide
theorem encF_len (f : Nat) : ∀ u, 1 ≤ (encF f u).length ∧ (encF f u).length ≤ f + 1 := by
  induction f with
  | zero => intro u; simp [encF]
  | succ f ih => intro u; unfold encF; split; · have := ih (u / 128); simp only [List.length_cons]; omega
                 · simp
theorem enc_len (n : Int) : 1 ≤ (enc n).length ∧ (enc n).length ≤ 10 := encF_len 9 _
theorem ones_xor (a : Nat) (ha : a < 18446744073709551616) : a ^^^ 18446744073709551615 = 18446744073709551615 - a := by
  have h := BitVec.toNat_xor (BitVec.ofNat 64 a) (BitVec.allOnes 64)
  rw [BitVec.xor_allOnes, BitVec.toNat_not, BitVec.toNat_allOnes, BitVec.toNat_ofNat] at h
  rw [Nat.mod_eq_of_lt (by simpa using ha)] at h
  have e : (2 : Nat) ^ 64 - 1 = 18446744073709551615 := by decide
  rw [e] at h
  omega
theorem zz_bits (n : Int) (h0 : -9223372036854775808 ≤ n) (h1 : n ≤ 9223372036854775807) :
    bits .xor .u64 (IntKind.u64.wrap (IntKind.u64.wrap n * 2)) (IntKind.u64.wrap (n / 9223372036854775808)) = zz n := by
  rw [IntKind.wrap_u64, IntKind.wrap_u64, IntKind.wrap_u64]
  unfold zz
  by_cases h : 0 ≤ n
  · rw [if_pos h]
    have e1 : n % 18446744073709551616 * 2 % 18446744073709551616 = ((2 * n).toNat : Int) := by omega
    have e2 : n / 9223372036854775808 % 18446744073709551616 = ((0 : Nat) : Int) := by omega
    rw [e1, e2, bits_xor_u64_nat _ _ (by omega) (by omega), Nat.xor_zero]; omega
  · rw [if_neg h]
    have e1 : n % 18446744073709551616 * 2 % 18446744073709551616 = ((2 * n + 18446744073709551616).toNat : Int) := by omega
    have e2 : n / 9223372036854775808 % 18446744073709551616 = ((18446744073709551615 : Nat) : Int) := by omega
    rw [e1, e2, bits_xor_u64_nat _ _ (by omega) (by omega), ones_xor _ (by omega)]; omega
theorem or128 (x : Int) (h0 : 0 ≤ x) (h1 : x < 256) : bits .or .u8 x 128 = x % 128 + 128 := by
  obtain ⟨m, rfl⟩ := Int.eq_ofNat_of_zero_le h0
  have hm : m < 256 := by omega
  have key : ∀ m : Nat, m < 256 → bits .or .u8 (m : Int) 128 = (m : Int) % 128 + 128 := by decide +kernel
  exact key m hm
theorem wrap8 (u : Int) : IntKind.u8.wrap u = u % 256 := IntKind.wrap_u8 u
/-- Behind k groups: what is left of the number, and the array. -/
def Enc (n k u : Int) (ps : List Int) : Prop := ps.length = 10 ∧ 0 ≤ u ∧ u < top k.toNat ∧ enc n = ps.take k.toNat ++ encF (9 - k.toNat) u
theorem Enc_zero (n : Int) (h0 : -9223372036854775808 ≤ n) (h1 : n ≤ 9223372036854775807) : Enc n 0 (zz n) [0, 0, 0, 0, 0, 0, 0, 0, 0, 0] := by
  have := zz_range n h0 h1
  exact ⟨rfl, this.1, this.2, rfl⟩
theorem top_le (k : Nat) : top (k + 1) = top k / 128 := rfl
theorem top_div : ∀ k : Nat, k < 9 → top k = 128 * top (k + 1) := by decide
theorem Enc_lt {n k u : Int} {ps : List Int} (h : Enc n k u ps) (h0 : 0 ≤ k) (h9 : k ≤ 9) (hu : 127 < u) : k < 9 := by
  rcases Int.lt_or_eq_of_le h9 with h' | rfl
  · exact h'
  · have := h.2.2.1; rw [show ((9 : Int).toNat) = 9 from rfl, top_9] at this; omega
theorem Enc_u64 {n k u : Int} {ps : List Int} (h : Enc n k u ps) (h0 : 0 ≤ k) (h9 : k ≤ 9) : u < 18446744073709551616 := by
  have := h.2.2.1
  have hk : k = 0 ∨ k = 1 ∨ k = 2 ∨ k = 3 ∨ k = 4 ∨ k = 5 ∨ k = 6 ∨ k = 7 ∨ k = 8 ∨ k = 9 := by omega
  rcases hk with rfl | rfl | rfl | rfl | rfl | rfl | rfl | rfl | rfl | rfl <;> simp [top] at this <;> omega
theorem Enc_step {n k u : Int} {ps : List Int} (h : Enc n k u ps) (h0 : 0 ≤ k) (h9 : k ≤ 9) (hu : 127 < u) : Enc n (k + 1) (u / 128) (ps.set k.toNat (u % 128 + 128)) := by
  have hk := Enc_lt h h0 h9 hu
  obtain ⟨a, b, c, d⟩ := h
  obtain ⟨m, rfl⟩ := Int.eq_ofNat_of_zero_le h0
  rw [Int.toNat_natCast] at *
  have e : ((m : Int) + 1).toNat = m + 1 := by omega
  refine ⟨by rw [List.length_set]; exact a, by omega, ?_, ?_⟩
  · rw [e]; have := top_div m (by omega); omega
  · rw [e, d]
    obtain ⟨f, hf⟩ : ∃ f, 9 - m = f + 1 := ⟨8 - m, by omega⟩
    have hm : m < (ps.set m (u % 128 + 128)).length := by rw [List.length_set]; omega
    rw [hf, show 9 - (m + 1) = f from by omega, List.take_succ_eq_append_getElem hm, List.getElem_set_self, List.take_set_of_le (Nat.le_refl _), List.append_assoc]
    simp only [encF]
    rw [if_pos hu]; rfl
theorem Enc_last {n k u : Int} {ps : List Int} (h : Enc n k u ps) (h0 : 0 ≤ k) (h9 : k ≤ 9) (hu : ¬ 127 < u) : (ps.set k.toNat u).take (k + 1).toNat = enc n ∧ enc n ≠ [] ∧ (enc n).length = (k + 1).toNat := by
  obtain ⟨a, b, c, d⟩ := h
  obtain ⟨m, rfl⟩ := Int.eq_ofNat_of_zero_le h0
  rw [Int.toNat_natCast] at *
  have e : ((m : Int) + 1).toNat = m + 1 := by omega
  have hm : m < (ps.set m u).length := by rw [List.length_set]; omega
  have hh : (ps.set m u).take (m + 1) = enc n := by
    rw [List.take_succ_eq_append_getElem hm, List.getElem_set_self, List.take_set_of_le (Nat.le_refl _), d]
    congr 1
    cases hf : 9 - m with
    | zero => rfl
    | succ f => unfold encF; rw [if_neg hu]
  rw [e]
  refine ⟨hh, ?_, ?_⟩
  · intro h; have := (enc_len n).1; rw [h] at this; simp at this
  · rw [← hh]; simp [a]; omega
theorem nums8_set (cs : List Int) (i : Nat) (v : Int) : (nums .u8 cs).toArray.setIfInBounds i (.int .u8 v) = (nums .u8 (cs.set i v)).toArray := by
  simp [nums, List.map_set]
theorem nums8_at (cs : List Int) (i : Nat) (hi : i < cs.length) : (nums .u8 cs).toArray[i]? = some (.int .u8 (rd cs (i : Int))) := by
  simp [nums, rd, hi]
end Go.Proofs.Ytnlbmhojjjjpdaa.Pk
