/- What number stands at the beginning of bytes; plain. -/
import Derived.Test.YtnlbmhojjjjpdaaPackEnc
namespace Go.Proofs.Ytnlbmhojjjjpdaa.Pk
open Go.RowKit Go.Proofs.YtnlbmhojjjjpdaaW.PrintWords Go.Proofs.YtnlbmhojjjjpdaaW.PrintLast Go.Proofs.YtnlbmhojjjjpdaaW.PrintMore
set_option linter.unusedVariables false
set_option linter.unusedSimpArgs false

/-- Each is a byte. -/
def Bytes8 (l : List Int) : Prop := ∀ x ∈ l, 0 ≤ x ∧ x < 256
/-- The number whose sign was folded in. -/
def unzz (u : Int) : Int := if u % 2 = 0 then u / 2 else -(u / 2) - 1
theorem unzz_zz (n : Int) : unzz (zz n) = n := by unfold unzz zz; split <;> split <;> omega
/-- The number at the beginning, and how many bytes it has (0: there is none): the place, what was read till there, what is left. -/
def nxt : Nat → Int → List Int → Int × Int
  | _, _, [] => (0, 0)
  | i, u, c :: l => if (i = 9 ∧ 1 < c) ∨ (0 < i ∧ c = 0) then (0, 0) else if c < 128 then (unzz (u + c % 128 * 128 ^ i), (i : Int) + 1) else nxt (i + 1) (u + c % 128 * 128 ^ i) l
theorem or_add (a b i : Nat) (ha : a < 2 ^ i) : a ||| (b * 2 ^ i) = a + b * 2 ^ i := by
  have h := Nat.two_pow_add_eq_or_of_lt (i := i) (b := a) ha b
  rw [Nat.mul_comm b, Nat.or_comm, ← h, Nat.add_comm]
theorem or_u64 (u x : Int) (i : Nat) (hu0 : 0 ≤ u) (hu : u < 2 ^ i) (hx0 : 0 ≤ x) (hb : u + x * 2 ^ i < 18446744073709551616) : bits .or .u64 u (x * 2 ^ i) = u + x * 2 ^ i := by
  obtain ⟨a, rfl⟩ := Int.eq_ofNat_of_zero_le hu0
  obtain ⟨b, rfl⟩ := Int.eq_ofNat_of_zero_le hx0
  have e1 : (((b * 2 ^ i : Nat)) : Int) = (b : Int) * 2 ^ i := by rw [Int.natCast_mul, Int.natCast_pow]; rfl
  have e2 : (((a + b * 2 ^ i : Nat)) : Int) = (a : Int) + (b : Int) * 2 ^ i := by rw [Int.natCast_add, e1]
  have e3 : (((2 ^ i : Nat)) : Int) = 2 ^ i := by rw [Int.natCast_pow]; rfl
  rw [← e2] at hb
  rw [← e3] at hu
  have ha : a < 2 ^ i := by omega
  have hb' : a + b * 2 ^ i < 18446744073709551616 := by omega
  have h := (bits_nat .u64 64 (by decide) (fun n h0 h1 => by rw [IntKind.wrap_u64]; omega) a (b * 2 ^ i) (by omega) (by omega)).2
  rw [or_add a b i ha, e1, e2] at h
  exact h
theorem and127 (c : Int) (h0 : 0 ≤ c) (h1 : c < 256) : bits .and .u8 c 127 = c % 128 := bits_mask .u8 8 (by decide) wraps_u8 7 (by decide) c h0 h1
theorem unzz_bits (u : Int) (h0 : 0 ≤ u) (h1 : u < 18446744073709551616) : bits .xor .i64 (IntKind.i64.wrap (u / 2)) (IntKind.i64.wrap (-(IntKind.i64.wrap (bits .and .u64 u 1)))) = unzz u := by
  have ha : bits .and .u64 u 1 = u % 2 := by
    obtain ⟨a, rfl⟩ := Int.eq_ofNat_of_zero_le h0
    have h := (bits_nat .u64 64 (by decide) (fun n h0 h1 => by rw [IntKind.wrap_u64]; omega) a 1 (by omega) (by omega)).1
    rw [show ((1 : Nat) : Int) = 1 from rfl, Nat.and_one_is_mod] at h
    rw [h]; omega
  rw [ha, IntKind.wrap_i64, IntKind.wrap_i64, IntKind.wrap_i64]
  have hz : ∀ x : Int, 0 ≤ x → x < 9223372036854775808 → bits .xor .i64 x 0 = x ∧ bits .xor .i64 x (-1) = -x - 1 := by
    intro x hx0 hx1
    obtain ⟨a, rfl⟩ := Int.eq_ofNat_of_zero_le hx0
    have ha : a < 9223372036854775808 := by omega
    have h1 : (BitVec.ofInt 64 (a : Int)).toNat = a := by rw [BitVec.ofInt_natCast, BitVec.toNat_ofNat]; exact Nat.mod_eq_of_lt (by omega)
    constructor
    · simp only [bits]
      rw [show BitVec.ofInt IntKind.i64.bits (0 : Int) = (0#64 : BitVec 64) from (by decide : BitVec.ofInt 64 0 = 0#64)]
      show IntKind.i64.wrap (((BitVec.ofInt 64 (a : Int)) ^^^ 0#64).toNat : Int) = a
      rw [BitVec.xor_zero, h1, IntKind.wrap_i64]; omega
    · simp only [bits]
      rw [show BitVec.ofInt IntKind.i64.bits (-1 : Int) = BitVec.allOnes 64 from (by decide : BitVec.ofInt 64 (-1) = BitVec.allOnes 64)]
      show IntKind.i64.wrap (((BitVec.ofInt 64 (a : Int)) ^^^ BitVec.allOnes 64).toNat : Int) = -(a : Int) - 1
      rw [BitVec.xor_allOnes, BitVec.toNat_not, h1, IntKind.wrap_i64, show (2 : Nat) ^ 64 - 1 - a = 18446744073709551615 - a from by omega]; omega
  have hx := hz (u / 2) (by omega) (by omega)
  unfold unzz
  by_cases h : u % 2 = 0
  · rw [if_pos h, h]
    rw [show (u / 2 + 9223372036854775808) % 18446744073709551616 - 9223372036854775808 = u / 2 from by omega]
    exact hx.1
  · rw [if_neg h, show u % 2 = 1 from by omega]
    rw [show (u / 2 + 9223372036854775808) % 18446744073709551616 - 9223372036854775808 = u / 2 from by omega]
    exact hx.2
theorem step_val (u b x : Int) (h0 : 0 ≤ x) (h9 : x ≤ 9) (hb0 : 0 ≤ b) (hb1 : b < 256) (hb9 : x = 9 → b ≤ 1) (hu0 : 0 ≤ u) (hu : u < 2 ^ (7 * x.toNat)) :
    bits .or .u64 u (IntKind.u64.wrap (b % 128 * 2 ^ (7 * x).toNat)) = u + b % 128 * 128 ^ x.toNat ∧ 0 ≤ u + b % 128 * 128 ^ x.toNat ∧ u + b % 128 * 128 ^ x.toNat < 18446744073709551616 ∧ (x < 9 → u + b % 128 * 128 ^ x.toNat < 2 ^ (7 * (x + 1).toNat)) := by
  obtain ⟨n, rfl⟩ := Int.eq_ofNat_of_zero_le h0
  rw [Int.toNat_natCast] at *
  rw [show (7 * (n : Int)).toNat = 7 * n from by omega, show ((n : Int) + 1).toNat = n + 1 from by omega]
  have hp : (128 : Int) ^ n = 2 ^ (7 * n) := by rw [Int.pow_mul]; rfl
  have hp1 : (2 : Int) ^ (7 * (n + 1)) = 2 ^ (7 * n) * 128 := by rw [Nat.mul_add, Int.pow_add]; rfl
  rw [hp, hp1]
  have hn : n = 0 ∨ n = 1 ∨ n = 2 ∨ n = 3 ∨ n = 4 ∨ n = 5 ∨ n = 6 ∨ n = 7 ∨ n = 8 ∨ n = 9 := by omega
  have key : ∀ m : Nat, (2 : Int) ^ (7 * n) = (m : Int) → (n < 9 → m ≤ 72057594037927936) → m ≤ 9223372036854775808 → (n = 9 → b ≤ 1) → bits .or .u64 u (IntKind.u64.wrap (b % 128 * 2 ^ (7 * n))) = u + b % 128 * 2 ^ (7 * n) ∧ 0 ≤ u + b % 128 * 2 ^ (7 * n) ∧ u + b % 128 * 2 ^ (7 * n) < 18446744073709551616 ∧ ((n : Int) < 9 → u + b % 128 * 2 ^ (7 * n) < 2 ^ (7 * n) * 128) := by
    intro m hm hm1 hm2 h9'
    have q0 : 0 ≤ b % 128 * (m : Int) := Int.mul_nonneg (by omega) (by omega)
    have q1 : b % 128 * (m : Int) ≤ 127 * (m : Int) := Int.mul_le_mul_of_nonneg_right (by omega) (by omega)
    have q2 : n = 9 → b % 128 * (m : Int) ≤ 1 * (m : Int) := fun h => Int.mul_le_mul_of_nonneg_right (by have := h9' h; omega) (by omega)
    rw [hm] at hu
    have hlt : u + b % 128 * 2 ^ (7 * n) < 18446744073709551616 := by
      rw [hm]
      by_cases h : n < 9
      · have := hm1 h; omega
      · have := q2 (by omega); omega
    have hw : IntKind.u64.wrap (b % 128 * 2 ^ (7 * n)) = b % 128 * 2 ^ (7 * n) := by rw [IntKind.wrap_u64]; rw [hm] at hlt ⊢; omega
    refine ⟨by rw [hw]; exact or_u64 u (b % 128) (7 * n) hu0 (by rw [hm]; exact hu) (by omega) hlt, by rw [hm]; omega, hlt, fun h => ?_⟩
    rw [hm]; omega
  have hb9' : n = 9 → b ≤ 1 := fun h => hb9 (by omega)
  rcases hn with h | h | h | h | h | h | h | h | h | h
  · exact key 1 (by rw [h]; rfl) (by omega) (by omega) hb9'
  · exact key 128 (by rw [h]; rfl) (by omega) (by omega) hb9'
  · exact key 16384 (by rw [h]; rfl) (by omega) (by omega) hb9'
  · exact key 2097152 (by rw [h]; rfl) (by omega) (by omega) hb9'
  · exact key 268435456 (by rw [h]; rfl) (by omega) (by omega) hb9'
  · exact key 34359738368 (by rw [h]; rfl) (by omega) (by omega) hb9'
  · exact key 4398046511104 (by rw [h]; rfl) (by omega) (by omega) hb9'
  · exact key 562949953421312 (by rw [h]; rfl) (by omega) (by omega) hb9'
  · exact key 72057594037927936 (by rw [h]; rfl) (by omega) (by omega) hb9'
  · exact key 9223372036854775808 (by rw [h]; rfl) (by omega) (by omega) hb9'
/-- One byte further. -/
theorem nxt_drop (bs : List Int) (x u : Int) (h0 : 0 ≤ x) (h1 : x < (bs.length : Int)) : nxt x.toNat u (bs.drop x.toNat) = if (x = 9 ∧ 1 < rd bs x) ∨ (0 < x ∧ rd bs x = 0) then (0, 0) else if rd bs x < 128 then (unzz (u + rd bs x % 128 * 128 ^ x.toNat), x + 1) else nxt (x + 1).toNat (u + rd bs x % 128 * 128 ^ x.toNat) (bs.drop (x + 1).toNat) := by
  obtain ⟨n, rfl⟩ := Int.eq_ofNat_of_zero_le h0
  have hn : n < bs.length := by omega
  have hr : rd bs (n : Int) = bs[n] := by simp [rd, hn]
  rw [hr, Int.toNat_natCast, show ((n : Int) + 1).toNat = n + 1 from by omega, List.drop_eq_getElem_cons hn]
  simp only [nxt]
  have e1 : (n = 9 ∧ 1 < bs[n]) ↔ ((n : Int) = 9 ∧ 1 < bs[n]) := by omega
  have e2 : (0 < n ∧ bs[n] = 0) ↔ (0 < (n : Int) ∧ bs[n] = 0) := by omega
  simp only [e1, e2]
theorem rd_mem (bs : List Int) (x : Int) (h0 : 0 ≤ x) (h1 : x < (bs.length : Int)) : rd bs x ∈ bs := by
  obtain ⟨n, rfl⟩ := Int.eq_ofNat_of_zero_le h0
  have hn : n < bs.length := by omega
  have hr : rd bs (n : Int) = bs[n] := by simp [rd, hn]
  rw [hr]; exact List.getElem_mem hn
theorem nxt_size (l : List Int) : ∀ (i : Nat) (u : Int), (nxt i u l).2 = 0 ∨ ((i : Int) < (nxt i u l).2 ∧ (nxt i u l).2 ≤ i + l.length) := by
  induction l with
  | nil => intro i u; left; rfl
  | cons c l ih =>
    intro i u
    simp only [nxt]
    by_cases h1 : (i = 9 ∧ 1 < c) ∨ (0 < i ∧ c = 0)
    · rw [if_pos h1]; left; rfl
    · rw [if_neg h1]
      by_cases h2 : c < 128
      · rw [if_pos h2]; right; simp only [List.length_cons]; omega
      · rw [if_neg h2]
        rcases ih (i + 1) (u + c % 128 * 128 ^ i) with h | h
        · left; exact h
        · right; simp only [List.length_cons]; omega
/-- What comes next. -/
def rNext (bs : List Int) (bad : Bool) : Int × Int := if bad = true then (0, 0) else nxt 0 0 bs
theorem rNext_size (bs : List Int) (bad : Bool) : (rNext bs bad).2 = 0 ∨ (0 < (rNext bs bad).2 ∧ (rNext bs bad).2 ≤ bs.length) := by
  unfold rNext
  cases bad with
  | true => left; rfl
  | false => rw [if_neg (by decide)]; have := nxt_size bs 0 0; omega
/-- Int: the number, the bytes that are left, whether something was wrong. -/
def rInt (bs : List Int) (bad : Bool) : Int × List Int × Bool := if (rNext bs bad).2 = 0 then (0, bs, true) else ((rNext bs bad).1, bs.drop (rNext bs bad).2.toNat, bad)
def rCount (most : Int) (bs : List Int) (bad : Bool) : Int × List Int × Bool := if (rNext bs bad).2 = 0 ∨ (rNext bs bad).1 < 0 ∨ most < (rNext bs bad).1 then (0, bs, true) else ((rNext bs bad).1, bs.drop (rNext bs bad).2.toNat, bad)
def rBool (bs : List Int) (bad : Bool) : Bool × List Int × Bool := if bad = true ∨ bs.length = 0 ∨ 1 < rd bs 0 then (false, bs, true) else (rd bs 0 == 1, bs.drop 1, bad)
def rText (most : Int) (bs : List Int) (bad : Bool) : List Int × List Int × Bool :=
  if (rNext bs bad).2 = 0 ∨ (rNext bs bad).1 < 0 ∨ most < (rNext bs bad).1 ∨ (bs.length : Int) - (rNext bs bad).2 < (rNext bs bad).1 then ([], bs, true)
  else ((bs.drop (rNext bs bad).2.toNat).take (rNext bs bad).1.toNat, (bs.drop (rNext bs bad).2.toNat).drop (rNext bs bad).1.toNat, bad)
end Go.Proofs.Ytnlbmhojjjjpdaa.Pk
