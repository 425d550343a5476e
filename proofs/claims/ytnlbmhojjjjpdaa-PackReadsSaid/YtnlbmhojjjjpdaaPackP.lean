/- What pack's bytes are good for: the plain laws. -/
import Derived.Test.YtnlbmhojjjjpdaaPackDec
namespace Go.Proofs.Ytnlbmhojjjjpdaa.Pk
open Go.RowKit Go.Proofs.YtnlbmhojjjjpdaaW.PrintWords Go.Proofs.YtnlbmhojjjjpdaaW.PrintLast Go.Proofs.YtnlbmhojjjjpdaaW.PrintMore
set_option linter.unusedVariables false
set_option linter.unusedSimpArgs false

theorem encF_bytes (f : Nat) : ∀ u, 0 ≤ u → (f = 0 → u < 256) → (f ≠ 0 → u < 256 * 128 ^ f) → Bytes8 (encF f u) := by
  induction f with
  | zero => intro u h0 h1 _ x hx; simp [encF] at hx; subst hx; exact ⟨h0, h1 rfl⟩
  | succ f ih =>
    intro u h0 _ h2 x hx
    unfold encF at hx
    split at hx
    · rcases List.mem_cons.mp hx with rfl | hx
      · omega
      · have h3 := h2 (by omega)
        have hp : (128 : Int) ^ (f + 1) = 128 ^ f * 128 := Int.pow_succ 128 f
        rw [hp] at h3
        refine ih (u / 128) (by omega) (fun hf => ?_) (fun hf => by omega) x hx
        subst hf; simp at h3; omega
    · simp at hx; omega
theorem enc_bytes (n : Int) (h0 : -9223372036854775808 ≤ n) (h1 : n ≤ 9223372036854775807) : Bytes8 (enc n) := by
  have := zz_range n h0 h1
  exact encF_bytes 9 (zz n) this.1 (fun h => by omega) (fun _ => by have : (256 : Int) * 128 ^ 9 = 2361183241434822606848 := by decide
                                                                    omega)
theorem nxt_enc (rest : List Int) (d : Nat) : ∀ (i : Nat) (u v : Int), i + d = 9 → 0 ≤ v → v < top i → (0 < i → 0 < v) → nxt i u (encF d v ++ rest) = (unzz (u + v * 128 ^ i), (i : Int) + (encF d v).length) := by
  induction d with
  | zero =>
    intro i u v hi h0 h1 h2
    obtain rfl : i = 9 := by omega
    rw [top_9] at h1
    simp only [encF, List.cons_append, List.nil_append, nxt]
    rw [if_neg (by have := h2 (by omega); omega), if_pos (by omega), show v % 128 = v from by omega]
    rfl
  | succ d ih =>
    intro i u v hi h0 h1 h2
    unfold encF
    by_cases hv : 127 < v
    · rw [if_pos hv]
      simp only [List.cons_append, nxt]
      rw [if_neg (by omega), if_neg (by omega), ih (i + 1) _ (v / 128) (by omega) (by omega) (by have := top_div i (by omega); omega) (by omega)]
      have hp : (128 : Int) ^ (i + 1) = 128 ^ i * 128 := Int.pow_succ 128 i
      have e1 : (v % 128 + 128) % 128 = v % 128 := by omega
      rw [e1, hp]
      have e2 : u + v % 128 * 128 ^ i + v / 128 * (128 ^ i * 128) = u + v * 128 ^ i := by
        have e3 : v / 128 * (128 ^ i * 128) = (v / 128 * 128) * 128 ^ i := by rw [Int.mul_comm (128 ^ i) 128, Int.mul_assoc]
        rw [e3, Int.add_assoc, ← Int.add_mul]
        congr 2; omega
      rw [e2]
      simp only [List.length_cons]
      congr 1; omega
    · rw [if_neg hv]
      simp only [List.cons_append, List.nil_append, nxt]
      rw [if_neg (by omega), if_pos (by omega), show v % 128 = v from by omega]
      rfl
/-- What was laid down is taken up. -/
theorem nxt_laid (n : Int) (rest : List Int) (h0 : -9223372036854775808 ≤ n) (h1 : n ≤ 9223372036854775807) : nxt 0 0 (enc n ++ rest) = (n, ((enc n).length : Int)) := by
  have hz := zz_range n h0 h1
  have h := nxt_enc rest 9 0 0 (zz n) rfl hz.1 hz.2 (fun h => absurd h (Nat.lt_irrefl 0))
  rw [show (0 : Int) + zz n * 128 ^ 0 = zz n from by simp, unzz_zz] at h
  rw [show ((0 : Nat) : Int) + ((encF 9 (zz n)).length : Int) = ((enc n).length : Int) from by unfold enc; simp] at h
  exact h
theorem enc_inj {a b : Int} (ha : -9223372036854775808 ≤ a ∧ a ≤ 9223372036854775807) (hb : -9223372036854775808 ≤ b ∧ b ≤ 9223372036854775807) (h : enc a = enc b) : a = b := by
  have h1 := nxt_laid a [] ha.1 ha.2
  have h2 := nxt_laid b [] hb.1 hb.2
  rw [h] at h1
  exact congrArg Prod.fst (h1.symm.trans h2)
theorem enc_one (a : Int) : (enc a).length = 1 ↔ (-64 ≤ a ∧ a ≤ 63) := by
  unfold enc
  rw [encF]
  have hz : (127 < zz a) ↔ ¬ (-64 ≤ a ∧ a ≤ 63) := by unfold zz; split <;> omega
  by_cases h : 127 < zz a
  · rw [if_pos h]
    have := (encF_len 8 (zz a / 128)).1
    constructor
    · intro h2; simp only [List.length_cons] at h2; omega
    · intro h2; exact absurd h2 (hz.mp h)
  · rw [if_neg h]
    constructor
    · intro _; exact Classical.not_not.mp (fun h3 => h (hz.mpr h3))
    · intro _; rfl
theorem encF_mono (f : Nat) : ∀ u v, u ≤ v → (encF f u).length ≤ (encF f v).length := by
  induction f with
  | zero => intro u v _; exact Nat.le_refl _
  | succ f ih =>
    intro u v h
    unfold encF
    by_cases hu : 127 < u
    · rw [if_pos hu, if_pos (by omega)]
      simp only [List.length_cons]
      exact Nat.succ_le_succ (ih _ _ (by omega))
    · rw [if_neg hu]
      split
      · simp
      · simp
theorem enc_mono (a b : Int) (h : (0 ≤ a ∧ a ≤ b) ∨ (a < 0 ∧ b ≤ a)) : (enc a).length ≤ (enc b).length := by
  unfold enc
  refine encF_mono 9 _ _ ?_
  unfold zz; split <;> split <;> omega
theorem str_bytes (l : List Int) (h : Bytes8 l) : (strOfNums l).data.toList.map (fun b => (b.toNat : Int)) = l := by
  rw [show (strOfNums l).data.toList = l.map (fun n => UInt8.ofNat n.toNat) from by simp [strOfNums], List.map_map]
  conv => rhs; rw [← List.map_id l]
  refine List.map_congr_left (fun x hx => ?_)
  have := h x hx
  simp only [Function.comp, UInt8.toNat_ofNat', id]
  omega
theorem str_inj {l m : List Int} (hl : Bytes8 l) (hm : Bytes8 m) (h : (strOfNums l).toList = (strOfNums m).toList) : l = m := by
  rw [ByteArray.toList_eq, ByteArray.toList_eq] at h
  rw [← str_bytes l hl, ← str_bytes m hm, h]
theorem str_same {l m : List Int} (hl : Bytes8 l) (hm : Bytes8 m) : ((strOfNums l).toList == (strOfNums m).toList) = decide (l = m) := by
  by_cases h : l = m
  · subst h; simp
  · rw [decide_eq_false h]
    exact beq_eq_false_iff_ne.mpr (fun h2 => h (str_inj hl hm h2))
end Go.Proofs.Ytnlbmhojjjjpdaa.Pk
