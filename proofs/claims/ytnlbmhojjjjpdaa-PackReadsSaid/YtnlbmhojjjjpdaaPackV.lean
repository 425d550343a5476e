/- The document's number is the program's: plain. -/
import Derived.Test.YtnlbmhojjjjpdaaPackO
import Derived.Test.YtnlbmhojjjjpdaaPkmalthouseref03number
namespace Go.Proofs.Ytnlbmhojjjjpdaa.Pk
open Go.RowKit Go.Proofs.YtnlbmhojjjjpdaaW.PrintWords Go.Proofs.YtnlbmhojjjjpdaaW.PrintLast Go.Proofs.YtnlbmhojjjjpdaaW.PrintMore
set_option linter.unusedVariables false
set_option linter.unusedSimpArgs false
/-- The digits from 1 to i, the lowest first. -/
def sumD (b : List Int) : Nat → Int
  | 0 => 0
  | i + 1 => sumD b i + rd b ((i + 1 : Nat) : Int) % 128 * 128 ^ i
def valF (b : List Int) : Nat → Int → Int
  | 0, x => x
  | i + 1, x => valF b i (x * 128 + rd b ((i + 1 : Nat) : Int) % 128)
theorem valF_sum (b : List Int) : ∀ (i : Nat) (x : Int), valF b i x = x * 128 ^ i + sumD b i := by
  intro i
  induction i with
  | zero => intro x; simp [valF, sumD]
  | succ i ih =>
    intro x
    rw [valF, ih, sumD, Int.add_mul, Int.pow_succ, Int.mul_assoc, Int.mul_comm 128 (128 ^ i)]
    omega
theorem sumD_pos (b : List Int) : ∀ i, 0 ≤ sumD b i ∧ sumD b i < 128 ^ i := by
  intro i
  induction i with
  | zero => simp [sumD]
  | succ i ih =>
    have hp : (0 : Int) < 128 ^ i := Int.pow_pos (by decide)
    have h1 : 0 ≤ rd b ((i + 1 : Nat) : Int) % 128 * 128 ^ i := Int.mul_nonneg (by omega) (by omega)
    have h2 : rd b ((i + 1 : Nat) : Int) % 128 * 128 ^ i ≤ 127 * 128 ^ i := Int.mul_le_mul_of_nonneg_right (by omega) (by omega)
    rw [sumD, Int.pow_succ]
    omega
theorem valF_ge (b : List Int) : ∀ (i : Nat) (x : Int), 0 ≤ x → x ≤ valF b i x := by
  intro i x hx
  rw [valF_sum]
  have hp : (0 : Int) < 128 ^ i := Int.pow_pos (by decide)
  have h1 : x * 1 ≤ x * 128 ^ i := Int.mul_le_mul_of_nonneg_left (by omega) hx
  have := (sumD_pos b i).1
  omega
theorem num_l1 (b : List Int) (h8 : Bytes8 b) (k : Nat) (hk : k ≤ 9) : ∀ (i : Nat) (x : Int), i < b.length → i ≤ 9 → 0 ≤ x → valF b i x < 144115188075855872 →
    malthouseref03_number.l1 (i + 1) b (k : Int) x (i : Int) = some (unzz (rd b 0 % 128 + 128 * valF b i x), (k : Int) + 1) := by
  intro i
  induction i with
  | zero =>
    intro x hl _ hx hv
    have h0 := h8 (rd b 0) (rd_mem b 0 (by omega) (by omega))
    simp only [valF] at hv ⊢
    rw [malthouseref03_number.l1, if_neg (by omega), if_pos (by omega)]
    have e1 : wrap64 (rd b 0) = rd b 0 := by unfold wrap64; omega
    have e2 : Int.tmod (rd b 0) 128 = rd b 0 % 128 := Int.tmod_eq_emod_of_nonneg h0.1
    have e3 : Int.tmod (rd b 0) 2 = rd b 0 % 2 := Int.tmod_eq_emod_of_nonneg h0.1
    have e4 : Int.tdiv (rd b 0 % 128) 2 = rd b 0 % 128 / 2 := Int.tdiv_eq_ediv_of_nonneg (by omega)
    have e5 : wrap64 (rd b 0 % 128 / 2) = rd b 0 % 128 / 2 := by unfold wrap64; omega
    have e6 : wrap64 (x * 64) = x * 64 := by unfold wrap64; omega
    have e7 : wrap64 ((k : Int) + 1) = (k : Int) + 1 := by unfold wrap64; omega
    have e8 : wrap64 (x * 64 + rd b 0 % 128 / 2) = x * 64 + rd b 0 % 128 / 2 := by unfold wrap64; omega
    have e9 : wrap64 (-1 - (x * 64 + rd b 0 % 128 / 2)) = -1 - (x * 64 + rd b 0 % 128 / 2) := by unfold wrap64; omega
    rw [e1, e2, e3, e4, e5, e6, e7, e8, e9]
    unfold unzz
    by_cases hp : rd b 0 % 2 = 1
    · rw [if_pos hp, if_neg (by omega)]; congr 2; omega
    · rw [if_neg hp, if_pos (by omega)]; congr 2; omega
  | succ i ih =>
    intro x hl h9 hx hv
    have h0 := h8 (rd b ((i + 1 : Nat) : Int)) (rd_mem b _ (by omega) (by omega))
    rw [valF] at hv ⊢
    have hge := valF_ge b i (x * 128 + rd b ((i + 1 : Nat) : Int) % 128) (by omega)
    rw [malthouseref03_number.l1, if_pos (by omega), if_pos (by omega), if_pos (by omega)]
    have e1 : wrap64 (rd b ((i + 1 : Nat) : Int)) = rd b ((i + 1 : Nat) : Int) := by unfold wrap64; omega
    have e2 : Int.tmod (rd b ((i + 1 : Nat) : Int)) 128 = rd b ((i + 1 : Nat) : Int) % 128 := Int.tmod_eq_emod_of_nonneg h0.1
    have e3 : wrap64 (x * 128) = x * 128 := by unfold wrap64; omega
    have e4 : wrap64 (x * 128 + rd b ((i + 1 : Nat) : Int) % 128) = x * 128 + rd b ((i + 1 : Nat) : Int) % 128 := by unfold wrap64; omega
    have e5 : wrap64 (((i + 1 : Nat) : Int) - 1) = (i : Int) := by unfold wrap64; omega
    rw [e1, e2, e3, e4, e5]
    exact ih _ (by omega) (by omega) (by omega) hv
def accD (b : List Int) : Nat → Int
  | 0 => 0
  | i + 1 => rd b 0 % 128 + 128 * sumD b i
theorem accD_step (b : List Int) (i : Nat) : accD b (i + 1) = accD b i + rd b (i : Int) % 128 * 128 ^ i := by
  cases i with
  | zero => simp [accD, sumD]
  | succ i =>
    simp only [accD, sumD, Int.pow_succ]
    rw [← Int.mul_assoc]
    omega
theorem sumD_small (b : List Int) (k : Nat) (hk : k ≤ 9) (h9 : k = 9 → rd b 9 % 128 ≤ 1) : sumD b k < 144115188075855872 := by
  by_cases h : k = 9
  · subst h
    have h8 := (sumD_pos b 8).2
    have e : sumD b 9 = sumD b 8 + rd b 9 % 128 * 128 ^ 8 := rfl
    have h1 := h9 rfl
    rw [e]
    have e2 : (128 : Int) ^ 8 = 72057594037927936 := by decide
    rw [e2] at h8 ⊢
    have : rd b 9 % 128 * 72057594037927936 ≤ 1 * 72057594037927936 := Int.mul_le_mul_of_nonneg_right h1 (by omega)
    omega
  · have h1 := (sumD_pos b k).2
    have h2 : (128 : Int) ^ k ≤ 128 ^ 8 := by
      have := Nat.pow_le_pow_right (n := 128) (by decide) (show k ≤ 8 by omega)
      exact_mod_cast this
    have e2 : (128 : Int) ^ 8 = 72057594037927936 := by decide
    omega
theorem num_fin (b : List Int) (h8 : Bytes8 b) (i : Nat) (hi : i ≤ 9) (hlt : i < b.length) (h9 : i = 9 → rd b 9 % 128 ≤ 1) :
    malthouseref03_number.j2 (i + 2) b (i : Int) false = some (unzz (accD b i + rd b (i : Int) % 128 * 128 ^ i), (i : Int) + 1) := by
  rw [malthouseref03_number.j2, if_neg (by decide), ← accD_step]
  have h := num_l1 b h8 i hi i 0 hlt hi (by omega) (by rw [valF_sum]; have := sumD_small b i hi h9; omega)
  rw [h, valF_sum, accD]
  simp
theorem num_at (b : List Int) (h8 : Bytes8 b) (i : Nat) (hi : i ≤ 9) (hl : i ≤ b.length) (next : i < 9 → i + 1 ≤ b.length → ∃ F, malthouseref03_number.l0 F b ((i + 1 : Nat) : Int) = some (nxt (i + 1) (accD b (i + 1)) (b.drop (i + 1)))) :
    ∃ F, malthouseref03_number.l0 F b (i : Int) = some (nxt i (accD b i) (b.drop i)) := by
  by_cases hlt : i < b.length
  · have hd := nxt_drop b (i : Int) (accD b i) (by omega) (by omega)
    have hc := h8 (rd b (i : Int)) (rd_mem b _ (by omega) (by omega))
    rw [Int.toNat_natCast, show ((i : Int) + 1).toNat = i + 1 from by omega] at hd
    by_cases hge : rd b (i : Int) ≥ 128
    · by_cases i9 : i = 9
      · subst i9
        refine ⟨4, ?_⟩
        rw [hd, if_pos (.inl ⟨rfl, by omega⟩), malthouseref03_number.l0, if_pos (by omega), if_pos (by omega), if_pos (by omega), if_pos hge]
        rw [show wrap64 (((9 : Nat) : Int) + 1) = 10 from by unfold wrap64; omega, malthouseref03_number.l0]
        have hj : malthouseref03_number.j1 2 b 10 = some (0, 0) := by
          rw [malthouseref03_number.j1]
          by_cases h : (10 : Int) = (b.length : Int)
          · rw [if_pos h]; rfl
          · rw [if_neg h, if_pos rfl]; rfl
        by_cases h : (10 : Int) < (b.length : Int)
        · rw [if_pos h, if_neg (by omega)]; exact hj
        · rw [if_neg h]; exact hj
      · obtain ⟨F, hF⟩ := next (by omega) (by omega)
        refine ⟨F + 1, ?_⟩
        rw [hd, if_neg (by omega), if_neg (by omega), ← accD_step, malthouseref03_number.l0, if_pos (by omega), if_pos (by omega), if_pos (by omega), if_pos hge]
        rw [show wrap64 ((i : Int) + 1) = ((i + 1 : Nat) : Int) from by unfold wrap64; omega]
        exact hF
    · refine ⟨i + 4, ?_⟩
      rw [hd, malthouseref03_number.l0, if_pos (by omega), if_pos (by omega), if_pos (by omega), if_neg hge, malthouseref03_number.j1, if_neg (by omega), if_neg (by omega)]
      by_cases i0 : (i : Int) > 0
      · rw [if_pos i0, if_pos (by omega), if_pos (by omega)]
        by_cases c0 : rd b (i : Int) = 0
        · rw [if_pos c0, if_pos (.inr ⟨by omega, c0⟩)]
          rw [malthouseref03_number.j2, if_pos rfl]
        · rw [if_neg c0]
          by_cases i9 : (i : Int) = 9
          · rw [if_pos i9]
            by_cases c1 : rd b (i : Int) > 1
            · rw [decide_eq_true c1, if_pos (.inl ⟨i9, by omega⟩), malthouseref03_number.j2, if_pos rfl]
            · rw [decide_eq_false c1, if_neg (by omega), if_pos (by omega)]
              exact num_fin b h8 i hi hlt (fun h => by rw [i9] at c1 hc; omega)
          · rw [if_neg i9, if_neg (by omega), if_pos (by omega)]
            exact num_fin b h8 i hi hlt (fun h => by omega)
      · rw [if_neg i0, if_neg (show ¬ (i : Int) = 9 by omega), if_neg (by omega), if_pos (by omega)]
        exact num_fin b h8 i hi hlt (fun h => by omega)
  · refine ⟨3, ?_⟩
    rw [List.drop_eq_nil_of_le (by omega), malthouseref03_number.l0, if_neg (by omega), malthouseref03_number.j1, if_pos (by omega)]
    rfl
theorem num_l0 (b : List Int) (h8 : Bytes8 b) : ∀ (m i : Nat), i + m = 9 → i ≤ b.length → ∃ F, malthouseref03_number.l0 F b (i : Int) = some (nxt i (accD b i) (b.drop i)) := by
  intro m
  induction m with
  | zero => intro i hi hl; exact num_at b h8 i (by omega) hl (fun h _ => by omega)
  | succ m ih => intro i hi hl; exact num_at b h8 i (by omega) hl (fun _ h => ih (i + 1) (by omega) h)
/-- The contract of the document's number. -/
theorem number_calls (A : Option Addr) (c : Nat) (b : List Int) (w : World) (hr : ReadsInt w .u8 A b.length b) (hc : b.length ≤ c) (h8 : Bytes8 b) :
    Calls Try.prog 67 #[.slice A b.length c] w fun e w' => e = .returned (.tuple #[.int .i64 (nxt 0 0 b).1, .int .i64 (nxt 0 0 b).2]) ∧ Drawn0 w w' := by
  obtain ⟨F, hF⟩ := num_l0 b h8 9 0 rfl (Nat.zero_le _)
  exact malthouseref03_number.calls F A c b _ _ w (Kd.C_of_reads (d := (0 : Int)) (h1 := fun _ => rfl) hr) hc hF
end Go.Proofs.Ytnlbmhojjjjpdaa.Pk
