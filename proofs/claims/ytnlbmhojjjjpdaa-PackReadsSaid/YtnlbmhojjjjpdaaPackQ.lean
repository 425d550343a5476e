/- What is taken up, laid down again, is the bytes that were taken: plain. -/
import Derived.Test.YtnlbmhojjjjpdaaPackP
import Derived.Test.YtnlbmhojjjjpdaaPackA
namespace Go.Proofs.Ytnlbmhojjjjpdaa.Pk
open Go.RowKit Go.Proofs.YtnlbmhojjjjpdaaW.PrintWords Go.Proofs.YtnlbmhojjjjpdaaW.PrintLast Go.Proofs.YtnlbmhojjjjpdaaW.PrintMore
set_option linter.unusedVariables false
set_option linter.unusedSimpArgs false

theorem zz_unzz (v : Int) (h : 0 ≤ v) : zz (unzz v) = v := by unfold unzz zz; split <;> split <;> omega
theorem nxt_back (l : List Int) : ∀ (i : Nat) (u : Int), i ≤ 9 → Bytes8 l → (nxt i u l).2 ≠ 0 →
    ∃ v : Int, (nxt i u l).1 = unzz (u + v * 128 ^ i) ∧ 0 ≤ v ∧ (0 < i → 0 < v) ∧ v < 2 * 128 ^ (9 - i) ∧ (nxt i u l).2 = (i : Int) + ((encF (9 - i) v).length : Int) ∧ l = encF (9 - i) v ++ l.drop (encF (9 - i) v).length := by
  induction l with
  | nil => intro i u _ _ h; exact absurd rfl h
  | cons c l ih =>
    intro i u hi h8 h
    have hc := h8 c (List.mem_cons_self ..)
    simp only [nxt] at h ⊢
    by_cases h1 : (i = 9 ∧ 1 < c) ∨ (0 < i ∧ c = 0)
    · rw [if_pos h1] at h; exact absurd rfl h
    · rw [if_neg h1] at h ⊢
      by_cases h2 : c < 128
      · rw [if_pos h2] at h ⊢
        have he : encF (9 - i) c = [c] := by
          cases hk : 9 - i with
          | zero => rfl
          | succ f => rw [encF, if_neg (by omega)]
        refine ⟨c, by rw [show c % 128 = c from by omega], hc.1, fun h0 => by omega, ?_, by rw [he]; rfl, by rw [he]; rfl⟩
        by_cases h9 : i = 9
        · subst h9; simp; omega
        · have : (128 : Int) ^ (9 - i) = 128 ^ (8 - i) * 128 := by rw [show 9 - i = (8 - i) + 1 from by omega, Int.pow_succ]
          have hp : (0 : Int) < 128 ^ (8 - i) := Int.pow_pos (by decide)
          omega
      · rw [if_neg h2] at h ⊢
        have h9 : i < 9 := by omega
        obtain ⟨v, e1, e2, e3, e4, e5, e6⟩ := ih (i + 1) (u + c % 128 * 128 ^ i) (by omega) (fun x hx => h8 x (List.mem_cons_of_mem _ hx)) h
        have e3 := e3 (by omega)
        have hv : 127 < c % 128 + 128 * v := by omega
        have he : encF (9 - i) (c % 128 + 128 * v) = c :: encF (9 - (i + 1)) v := by
          rw [show 9 - i = (9 - (i + 1)) + 1 from by omega, encF, if_pos hv, show (c % 128 + 128 * v) % 128 + 128 = c from by omega, show (c % 128 + 128 * v) / 128 = v from by omega]
        refine ⟨c % 128 + 128 * v, ?_, by omega, fun _ => by omega, ?_, ?_, ?_⟩
        · rw [e1]; congr 1
          rw [Int.pow_succ, Int.add_mul, Int.add_assoc]
          congr 2
          rw [Int.mul_comm (128 ^ i) 128, ← Int.mul_assoc, Int.mul_comm v 128]
        · have : (128 : Int) ^ (9 - i) = 128 ^ (9 - (i + 1)) * 128 := by rw [show 9 - i = (9 - (i + 1)) + 1 from by omega, Int.pow_succ]
          omega
        · rw [e5, he]; simp only [List.length_cons]; omega
        · rw [he]; simp only [List.length_cons, List.cons_append, List.drop_succ_cons]; rw [← e6]
/-- A number that was found at the beginning: its own bytes stand there. -/
theorem nxt_own (l : List Int) (h8 : Bytes8 l) (h : (nxt 0 0 l).2 ≠ 0) : -9223372036854775808 ≤ (nxt 0 0 l).1 ∧ (nxt 0 0 l).1 ≤ 9223372036854775807 ∧ (nxt 0 0 l).2 = ((enc (nxt 0 0 l).1).length : Int) ∧ l = enc (nxt 0 0 l).1 ++ l.drop (nxt 0 0 l).2.toNat := by
  obtain ⟨v, e1, e2, _, e4, e5, e6⟩ := nxt_back l 0 0 (by omega) h8 h
  have hv : v < 18446744073709551616 := by have : (2 : Int) * 128 ^ (9 - 0) = 18446744073709551616 := by decide
                                           omega
  have e1' : (nxt 0 0 l).1 = unzz v := by rw [e1]; simp
  have he : enc (nxt 0 0 l).1 = encF (9 - 0) v := by unfold enc; rw [e1', zz_unzz v e2]
  refine ⟨?_, ?_, by rw [e5, he]; simp, ?_⟩
  · rw [e1']; unfold unzz; split <;> omega
  · rw [e1']; unfold unzz; split <;> omega
  · rw [he, e5, show ((0 : Nat) + ((encF (9 - 0) v).length : Int)).toNat = (encF (9 - 0) v).length from by omega]; exact e6
theorem rInt_own (bs bs' : List Int) (n : Int) (bad' : Bool) (h8 : Bytes8 bs) (h : rInt bs false = (n, bs', bad')) :
    (-9223372036854775808 ≤ n ∧ n ≤ 9223372036854775807) ∧ (bad' = true → n = 0 ∧ bs' = bs) ∧ (bad' = false → bs = enc n ++ bs') := by
  unfold rInt rNext at h
  simp only [if_neg (show ¬ (false = true) from by decide)] at h
  by_cases h0 : (nxt 0 0 bs).2 = 0
  · rw [if_pos h0] at h; injection h with h1 h2; injection h2 with h2 h3; subst h1 h2 h3
    exact ⟨by omega, fun _ => ⟨rfl, rfl⟩, fun h => nomatch h⟩
  · rw [if_neg h0] at h; injection h with h1 h2; injection h2 with h2 h3; subst h1 h2 h3
    have := nxt_own bs h8 h0
    exact ⟨⟨this.1, this.2.1⟩, (fun h => nomatch h), fun _ => this.2.2.2⟩
theorem rBool_own (bs bs' : List Int) (r bad' : Bool) (h8 : Bytes8 bs) (h : rBool bs false = (r, bs', bad')) :
    (bad' = true → r = false ∧ bs' = bs) ∧ (bad' = false → bs = [bitI r] ++ bs') := by
  unfold rBool at h
  by_cases h0 : false = true ∨ bs.length = 0 ∨ 1 < rd bs 0
  · rw [if_pos h0] at h; injection h with h1 h2; injection h2 with h2 h3; subst h1 h2 h3
    exact ⟨fun _ => ⟨rfl, rfl⟩, fun h => nomatch h⟩
  · rw [if_neg h0] at h; injection h with h1 h2; injection h2 with h2 h3; subst h1 h2 h3
    refine ⟨(fun h => nomatch h), fun _ => ?_⟩
    cases bs with
    | nil => exact absurd (Or.inr (Or.inl rfl)) h0
    | cons c l =>
      have hc := h8 c (List.mem_cons_self ..)
      have hr : rd (c :: l) 0 = c := rfl
      rw [hr] at h0 ⊢
      simp only [List.drop_succ_cons, List.drop_zero, List.cons_append, List.nil_append]
      congr 1
      have : c = 0 ∨ c = 1 := by omega
      rcases this with rfl | rfl <;> rfl
theorem rText_own (most : Int) (bs bs' t : List Int) (bad' : Bool) (h8 : Bytes8 bs) (h : rText most bs false = (t, bs', bad')) :
    (bad' = true → t = [] ∧ bs' = bs) ∧ (bad' = false → bs = enc (t.length : Int) ++ t ++ bs' ∧ (t.length : Int) ≤ most) ∧ Bytes8 t ∧ t.length ≤ bs.length := by
  unfold rText rNext at h
  simp only [if_neg (show ¬ (false = true) from by decide)] at h
  by_cases h0 : (nxt 0 0 bs).2 = 0 ∨ (nxt 0 0 bs).1 < 0 ∨ most < (nxt 0 0 bs).1 ∨ (bs.length : Int) - (nxt 0 0 bs).2 < (nxt 0 0 bs).1
  · rw [if_pos h0] at h; injection h with h1 h2; injection h2 with h2 h3; subst h1 h2 h3
    exact ⟨fun _ => ⟨rfl, rfl⟩, (fun h => nomatch h), (fun x hx => nomatch hx), Nat.zero_le _⟩
  · rw [if_neg h0] at h; injection h with h1 h2; injection h2 with h2 h3; subst h1 h2 h3
    have hq : (nxt 0 0 bs).2 ≠ 0 := fun h => h0 (.inl h)
    obtain ⟨_, _, e3, e4⟩ := nxt_own bs h8 hq
    have hl : (bs.drop (nxt 0 0 bs).2.toNat).length = bs.length - (nxt 0 0 bs).2.toNat := List.length_drop
    have ht : (((bs.drop (nxt 0 0 bs).2.toNat).take (nxt 0 0 bs).1.toNat).length : Int) = (nxt 0 0 bs).1 := by
      rw [List.length_take, hl]; omega
    refine ⟨(fun h => nomatch h), fun _ => ⟨?_, by rw [ht]; omega⟩, ?_, ?_⟩
    · rw [ht, List.append_assoc, List.take_append_drop]; exact e4
    · intro x hx; exact h8 x (List.mem_of_mem_drop (List.mem_of_mem_take hx))
    · rw [List.length_take, hl]; omega
end Go.Proofs.Ytnlbmhojjjjpdaa.Pk
