/- PackBack's plain law: what was laid down is taken up by the same calls; of no beginning of it all is. -/
import Derived.Test.YtnlbmhojjjjpdaaPackL
namespace Go.Proofs.Ytnlbmhojjjjpdaa.Pk
open Go.RowKit Go.Proofs.YtnlbmhojjjjpdaaW.PrintWords Go.Proofs.YtnlbmhojjjjpdaaW.PrintLast Go.Proofs.YtnlbmhojjjjpdaaW.PrintMore
set_option linter.unusedVariables false
set_option linter.unusedSimpArgs false
theorem bytesOf_str (s : ByteArray) : strOfNums (bytesOf s) = s := by
  unfold bytesOf strOfNums
  rw [List.map_map]
  have : ((fun n : Int => UInt8.ofNat n.toNat) ∘ fun b : UInt8 => (b.toNat : Int)) = id := by funext b; simp
  rw [this, List.map_id]
theorem bytesOf_8 (s : ByteArray) : Bytes8 (bytesOf s) := by
  intro x hx
  unfold bytesOf at hx
  obtain ⟨b, _, rfl⟩ := List.mem_map.mp hx
  have := b.toNat_lt
  omega
theorem rInt_enc (n : Int) (rest : List Int) (h : -9223372036854775808 ≤ n ∧ n ≤ 9223372036854775807) : rInt (enc n ++ rest) false = (n, rest, false) := by
  have hl := (enc_len n).1
  unfold rInt rNext
  simp only [if_neg (show ¬ (false = true) from by decide)]
  rw [nxt_laid n rest h.1 h.2, if_neg (by simp only; omega)]
  simp
theorem rBool_bit (b : Bool) (rest : List Int) : rBool ([bitI b] ++ rest) false = (b, rest, false) := by
  cases b <;> simp [rBool, bitI, rd]
theorem rText_laid (s : ByteArray) (rest : List Int) (h : s.size ≤ 2000) : rText (s.size : Int) (enc (s.size : Int) ++ bytesOf s ++ rest) false = (bytesOf s, rest, false) := by
  have hl := (enc_len (s.size : Int)).1
  have hb := bytesOf_len s
  unfold rText rNext
  simp only [if_neg (show ¬ (false = true) from by decide)]
  rw [List.append_assoc, nxt_laid (s.size : Int) (bytesOf s ++ rest) (by omega) (by omega)]
  rw [if_neg (by simp only [List.length_append]; omega)]
  simp only [Int.toNat_natCast, List.drop_left]
  rw [← hb, List.take_left, List.drop_left]
theorem take1_laid (y : S27) (rest : List Int) (h : y.f3.size ≤ 2000 ∧ -9223372036854775808 ≤ y.f1 ∧ y.f1 ≤ 9223372036854775807) : take1 y (lay1 y ++ rest) = (true, rest, false) := by
  unfold take1 lay1
  by_cases h0 : y.f0 = 0 ∨ y.f0 = 3
  · rw [if_pos h0, if_pos h0, rInt_enc y.f1 rest h.2]; simp
  · rw [if_neg h0, if_neg h0]
    by_cases h1 : y.f0 = 1
    · rw [if_pos h1, if_pos h1, rBool_bit]; simp
    · rw [if_neg h1, if_neg h1]
      by_cases h2 : y.f0 = 2
      · rw [if_pos h2, if_pos h2, rText_laid y.f3 rest h.1, bytesOf_str]; simp
      · rw [if_neg h2, if_neg h2]; rfl
theorem taken_laid : ∀ (l : List S27), (∀ x ∈ l, x.f3.size ≤ 2000 ∧ -9223372036854775808 ≤ x.f1 ∧ x.f1 ≤ 9223372036854775807) → takenF (layAll l) l = true := by
  intro l
  induction l with
  | nil => intro _; rfl
  | cons y l ih =>
    intro h
    have e : layAll (y :: l) = lay1 y ++ layAll l := rfl
    have ht := take1_laid y (layAll l) (h y (List.mem_cons_self ..))
    rw [e, takenF_go (by rw [ht]) (by rw [ht]), ht]
    exact ih (fun x hx => h x (List.mem_cons_of_mem _ hx))
/-- Of a number's bytes no beginning is a number. -/
theorem nxt_cut (n : Int) (p q : List Int) (h : -9223372036854775808 ≤ n ∧ n ≤ 9223372036854775807) (hp : enc n = p ++ q) (hq : q ≠ []) : (nxt 0 0 p).2 = 0 := by
  by_cases h0 : (nxt 0 0 p).2 = 0
  · exact h0
  · have h8 : Bytes8 p := fun x hx => enc_bytes n h.1 h.2 x (by rw [hp]; exact List.mem_append_left _ hx)
    obtain ⟨e1, e2, e3, e4⟩ := nxt_own p h8 h0
    generalize hm : (nxt 0 0 p).1 = m at *
    have a1 := nxt_laid n [] h.1 h.2
    have a2 := nxt_laid m (p.drop (nxt 0 0 p).2.toNat ++ q) e1 e2
    rw [← List.append_assoc, ← e4, ← hp] at a2
    rw [List.append_nil] at a1
    have a3 := congrArg Prod.snd (a1.symm.trans a2)
    simp only at a3
    have l1 := congrArg List.length e4
    have l2 := congrArg List.length hp
    rw [List.length_append] at l1 l2
    have l3 : 0 < q.length := List.length_pos_iff.mpr hq
    omega
theorem take1_cut (y : S27) (p q : List Int) (h : y.f3.size ≤ 2000 ∧ -9223372036854775808 ≤ y.f1 ∧ y.f1 ≤ 9223372036854775807) (hp : lay1 y = p ++ q) (hq : q ≠ []) : (take1 y p).2.2 = true := by
  unfold lay1 at hp
  unfold take1
  have hql : 0 < q.length := List.length_pos_iff.mpr hq
  by_cases h0 : y.f0 = 0 ∨ y.f0 = 3
  · rw [if_pos h0] at hp ⊢
    have := nxt_cut y.f1 p q h.2 hp hq
    unfold rInt rNext
    simp [this]
  · rw [if_neg h0] at hp ⊢
    by_cases h1 : y.f0 = 1
    · rw [if_pos h1] at hp ⊢
      have l := congrArg List.length hp
      rw [List.length_append] at l
      have : p.length = 0 := by simp at l; omega
      obtain rfl := List.eq_nil_of_length_eq_zero this
      simp [rBool]
    · rw [if_neg h1] at hp ⊢
      by_cases h2 : y.f0 = 2
      · rw [if_pos h2] at hp ⊢
        have hb := bytesOf_len y.f3
        have l := congrArg List.length hp
        rw [List.length_append, List.length_append] at l
        unfold rText rNext
        simp only [if_neg (show ¬ (false = true) from by decide)]
        by_cases hs : p.length < (enc (y.f3.size : Int)).length
        · have he : enc (y.f3.size : Int) = p ++ (enc (y.f3.size : Int)).drop p.length := by
            have t1 : p = (enc (y.f3.size : Int)).take p.length := by
              have := congrArg (List.take p.length) hp
              rw [List.take_left, List.take_append_of_le_length (by omega)] at this
              exact this.symm
            conv => lhs; rw [← List.take_append_drop p.length (enc (y.f3.size : Int)), ← t1]
          have hz := nxt_cut (y.f3.size : Int) p _ (by omega) he (by intro h; have := congrArg List.length h; rw [List.length_drop] at this; simp at this; omega)
          rw [if_pos (.inl hz)]
        · have t1 : p = enc (y.f3.size : Int) ++ p.drop (enc (y.f3.size : Int)).length := by
            have := congrArg (List.take (enc (y.f3.size : Int)).length) hp
            rw [List.take_left, List.take_append_of_le_length (by omega)] at this
            conv => lhs; rw [← List.take_append_drop (enc (y.f3.size : Int)).length p, ← this]
          have hx := nxt_laid (y.f3.size : Int) (p.drop (enc (y.f3.size : Int)).length) (by omega) (by omega)
          rw [← t1] at hx
          rw [hx, if_pos (by simp only; omega)]
      · rw [if_neg h2] at hp
        have l := congrArg List.length hp
        rw [List.length_append] at l
        simp at l; omega
theorem taken_cut : ∀ (l : List S27) (p q : List Int), (∀ x ∈ l, x.f3.size ≤ 2000 ∧ -9223372036854775808 ≤ x.f1 ∧ x.f1 ≤ 9223372036854775807) → layAll l = p ++ q → q ≠ [] → takenF p l = false := by
  intro l
  induction l with
  | nil => intro p q _ hp hq; have l := congrArg List.length hp; rw [List.length_append] at l; have := List.length_pos_iff.mpr hq; simp [layAll] at l; omega
  | cons y l ih =>
    intro p q h hp hq
    have e : layAll (y :: l) = lay1 y ++ layAll l := rfl
    rw [e] at hp
    have hy := h y (List.mem_cons_self ..)
    by_cases hc : (lay1 y).length ≤ p.length
    · have t1 : p = lay1 y ++ p.drop (lay1 y).length := by
        have := congrArg (List.take (lay1 y).length) hp
        rw [List.take_left, List.take_append_of_le_length hc] at this
        conv => lhs; rw [← List.take_append_drop (lay1 y).length p, ← this]
      have t2 : layAll l = p.drop (lay1 y).length ++ q := by
        have := congrArg (List.drop (lay1 y).length) hp
        rw [List.drop_left, List.drop_append_of_le_length hc] at this
        exact this
      have ht := take1_laid y (p.drop (lay1 y).length) hy
      rw [← t1] at ht
      rw [takenF_go (by rw [ht]) (by rw [ht]), ht]
      exact ih _ q (fun x hx => h x (List.mem_cons_of_mem _ hx)) t2 hq
    · have t1 : lay1 y = p ++ (lay1 y).drop p.length := by
        have := congrArg (List.take p.length) hp
        rw [List.take_left, List.take_append_of_le_length (by omega)] at this
        conv => lhs; rw [← List.take_append_drop p.length (lay1 y), this]
      exact takenF_bad (.inr (take1_cut y p _ hy t1 (by intro h2; have := congrArg List.length h2; rw [List.length_drop] at this; simp at this; omega)))
end Go.Proofs.Ytnlbmhojjjjpdaa.Pk
