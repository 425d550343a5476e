/- What reads does, for every thing; rows that are written over. -/
import Derived.Test.YtnlbmhojjjjpdaaPackZB
import Derived.Test.YtnlbmhojjjjpdaaPackO
namespace Go.Proofs.Ytnlbmhojjjjpdaa.Pk
open Go.RowKit Go.Proofs.YtnlbmhojjjjpdaaW.PrintWords Go.Proofs.YtnlbmhojjjjpdaaW.PrintLast Go.Proofs.YtnlbmhojjjjpdaaW.PrintMore
set_option linter.unusedVariables false
set_option linter.unusedSimpArgs false
/-- What is left, and whether something was wrong, behind one call. -/
def readsF (y : S27) (bs : List Int) (bad : Bool) : List Int × Bool :=
  if y.f0 = 0 then (rInt bs bad).2 else if y.f0 = 1 then (rBool bs bad).2 else if y.f0 = 2 then (rText y.f4 bs bad).2 else if y.f0 = 3 then (rCount y.f4 bs bad).2 else (bs, bad)
theorem rInt_sub2 (bs bs' : List Int) (n : Int) (bad bad' : Bool) (h : rInt bs bad = (n, bs', bad')) : ∃ k, bs' = bs.drop k := by
  cases bad with
  | false => exact rInt_sub bs bs' n bad' h
  | true => simp [rInt, rNext] at h; exact ⟨0, by simp [h.2.1]⟩
theorem rBool_sub2 (bs bs' : List Int) (n : Bool) (bad bad' : Bool) (h : rBool bs bad = (n, bs', bad')) : ∃ k, bs' = bs.drop k := by
  cases bad with
  | false => exact rBool_sub bs bs' n bad' h
  | true => simp [rBool] at h; exact ⟨0, by simp [h.2.1]⟩
theorem rText_sub2 (most : Int) (bs bs' : List Int) (n : List Int) (bad bad' : Bool) (h : rText most bs bad = (n, bs', bad')) : ∃ k, bs' = bs.drop k := by
  cases bad with
  | false => exact rText_sub most bs bs' n bad' h
  | true => simp [rText, rNext] at h; exact ⟨0, by simp [h.2.1]⟩
theorem rCount_sub2 (most : Int) (bs bs' : List Int) (n : Int) (bad bad' : Bool) (h : rCount most bs bad = (n, bs', bad')) : ∃ k, bs' = bs.drop k := by
  cases bad with
  | true => simp [rCount, rNext] at h; exact ⟨0, by simp [h.2.1]⟩
  | false =>
    unfold rCount at h; split at h
    · injection h with _ h; injection h with h _; exact ⟨0, by rw [← h]; rfl⟩
    · injection h with _ h; injection h with h _; exact ⟨_, h.symm⟩
theorem readsF_sub (y : S27) (bs : List Int) (bad : Bool) : ∃ k, (readsF y bs bad).1 = bs.drop k := by
  unfold readsF
  split
  · exact rInt_sub2 bs _ _ bad _ rfl
  split
  · exact rBool_sub2 bs _ _ bad _ rfl
  split
  · exact rText_sub2 y.f4 bs _ _ bad _ rfl
  split
  · exact rCount_sub2 y.f4 bs _ _ bad _ rfl
  · exact ⟨0, rfl⟩
theorem reads_calls (g h : Nat) (A A2 : Option Addr) (c c2 : Nat) (w : World) (bs : List Int) (bad : Bool) (y : S27) (hb : w.heap[g]? = some (.cells #[.slice A bs.length c, .bool bad] 70 (0, 0))) (hc : bs.length ≤ c) (hrd : ReadsInt w .u8 A bs.length bs) (hfg : ∀ ad, A = some ad → ad.block ≠ g) (hb2 : w.heap[h]? = some (.cells #[.slice A2 bs.length c2, .bool bad] 51 (0, 0))) (hc2 : bs.length ≤ c2) (hrd2 : ReadsInt w .u8 A2 bs.length bs) (hfg2 : ∀ ad, A2 = some ad → 0 < bs.length → ad.block ≠ g) (hgh : h ≠ g) (h8 : Bytes8 bs) (hl : bs.length < 1000000000) :
    Calls Try.prog 32 #[.pointer (some ⟨g, 0, none⟩), .pointer (some ⟨h, 0, none⟩), .agg #[.int .i64 y.f0, .int .i64 y.f1, .bool y.f2, .string y.f3, .int .i64 y.f4]] w fun e w' => e = .returned (.bool true) ∧ TwoPost g h A A2 bs w w' (readsF y bs bad).1 (readsF y bs bad).2 := by
  have T : ∀ k : Int, y.f0 = k → (y.f0 == k) = true := fun k h => beq_iff_eq.mpr h
  have F : ∀ k : Int, y.f0 ≠ k → (y.f0 == k) = false := fun k h => beq_eq_false_iff_ne.mpr h
  unfold readsF
  by_cases k0 : y.f0 = 0
  · rw [if_pos k0]
    obtain ⟨n, bs', bad', hr⟩ : ∃ n bs' bad', rInt bs bad = (n, bs', bad') := ⟨_, _, _, rfl⟩
    rw [hr]
    cases bad'
    · exact reads_0g g h A A2 c c2 w bs bad y hb hc hrd hfg hb2 hc2 hrd2 hfg2 hgh h8 hl (T _ k0) n bs' hr
    · exact reads_0b g h A A2 c c2 w bs bad y hb hc hrd hfg hb2 hc2 hrd2 hfg2 hgh h8 hl (T _ k0) n bs' hr
  rw [if_neg k0]
  by_cases k1 : y.f0 = 1
  · rw [if_pos k1]
    obtain ⟨n, bs', bad', hr⟩ : ∃ n bs' bad', rBool bs bad = (n, bs', bad') := ⟨_, _, _, rfl⟩
    rw [hr]
    cases bad'
    · exact reads_1g g h A A2 c c2 w bs bad y hb hc hrd hfg hb2 hc2 hrd2 hfg2 hgh h8 hl (F _ k0) (T _ k1) n bs' hr
    · exact reads_1b g h A A2 c c2 w bs bad y hb hc hrd hfg hb2 hc2 hrd2 hfg2 hgh h8 hl (F _ k0) (T _ k1) n bs' hr
  rw [if_neg k1]
  by_cases k2 : y.f0 = 2
  · rw [if_pos k2]
    obtain ⟨n, bs', bad', hr⟩ : ∃ n bs' bad', rText y.f4 bs bad = (n, bs', bad') := ⟨_, _, _, rfl⟩
    rw [hr]
    cases bad'
    · exact reads_2g g h A A2 c c2 w bs bad y hb hc hrd hfg hb2 hc2 hrd2 hfg2 hgh h8 hl (F _ k0) (F _ k1) (T _ k2) n bs' hr
    · exact reads_2b g h A A2 c c2 w bs bad y hb hc hrd hfg hb2 hc2 hrd2 hfg2 hgh h8 hl (F _ k0) (F _ k1) (T _ k2) n bs' hr
  rw [if_neg k2]
  by_cases k3 : y.f0 = 3
  · rw [if_pos k3]
    obtain ⟨n, bs', bad', hr⟩ : ∃ n bs' bad', rCount y.f4 bs bad = (n, bs', bad') := ⟨_, _, _, rfl⟩
    rw [hr]
    cases bad'
    · exact reads_3g g h A A2 c c2 w bs bad y hb hc hrd hfg hb2 hc2 hrd2 hfg2 hgh h8 hl (F _ k0) (F _ k1) (F _ k2) (T _ k3) n bs' hr
    · exact reads_3b g h A A2 c c2 w bs bad y hb hc hrd hfg hb2 hc2 hrd2 hfg2 hgh h8 hl (F _ k0) (F _ k1) (F _ k2) (T _ k3) n bs' hr
  rw [if_neg k3]
  cases bad
  · exact reads_4g g h A A2 c c2 w bs y hb hc hrd hfg hb2 hc2 hrd2 hfg2 hgh h8 hl (F _ k0) (F _ k1) (F _ k2) (F _ k3)
  · exact reads_4b g h A A2 c c2 w bs y hb hc hrd hfg hb2 hc2 hrd2 hfg2 hgh h8 hl (F _ k0) (F _ k1) (F _ k2) (F _ k3)
/-- All blocks but o (if there is anything in it) are as they were. -/
def KeptRow (w w' : World) (o n : Nat) : Prop := Below 0 w w' ∧ ∀ i, i < w.heap.size → (0 < n → i ≠ o) → w'.heap[i]? = w.heap[i]?
theorem KeptRow.refl (w : World) (o n : Nat) : KeptRow w w o n := ⟨Below.refl _ _, fun _ _ _ => rfl⟩
theorem KeptRow.set_ {w w' : World} {o n : Nat} (h : KeptRow w w' o n) (hn : 0 < n) (j : Nat) (u : Value) : KeptRow w (w'.setCell ⟨o, j, none⟩ u) o n :=
  ⟨h.1.setCell (p := ⟨o, j, none⟩) (Nat.zero_le _) u, fun i hi ho => (Below.heap_setCell w' ⟨o, j, none⟩ u i (ho hn)).trans (h.2 i hi ho)⟩
theorem reads_blocks {w w' : World} {A : Option Addr} {n : Nat} {xs : List Int} (h : ReadsInt w .u8 A n xs) (hk : ∀ ad, A = some ad → 0 < n → ad.block < w.heap.size → w'.heap[ad.block]? = w.heap[ad.block]?) : ReadsInt w' .u8 A n xs :=
  ⟨h.1, h.2.1, fun hn => by
    obtain ⟨ad, e, hc⟩ := h.2.2 hn
    refine ⟨ad, e, fun j hj => ?_⟩
    have h1 := hc j hj
    have h2 : (ad.add j).block = ad.block := add_block ad j
    have h3 := World.block_lt_of_cell? w _ h1
    rw [h2] at h3
    exact (World.cell?_of_block (w := w) (by rw [h2]; exact hk ad e hn h3)).trans h1⟩
/-- The cells of a row of bytes: n of them, of any content. -/
def OwnCells (w : World) (o n : Nat) : Prop := ∃ cs, w.heap[o]? = some (.cells cs 5 (0, 0)) ∧ ∀ i, i < n → ∃ v, cs[i]? = some (.int .u8 v)
theorem OwnCells.set_ {w : World} {o n : Nat} (h : OwnCells w o n) (j : Nat) (v : Int) : OwnCells (w.setCell ⟨o, j, none⟩ (.int .u8 v)) o n := by
  obtain ⟨cs, h1, h2⟩ := h
  refine ⟨_, blk_set h1 j (.int .u8 v), fun i hi => ?_⟩
  obtain ⟨v0, hv⟩ := h2 i hi
  by_cases hij : j = i
  · subst hij
    have : j < cs.size := (Array.getElem?_eq_some_iff.1 hv).1
    exact ⟨v, by simp [this]⟩
  · exact ⟨v0, by rw [Array.getElem?_setIfInBounds_ne hij]; exact hv⟩
theorem own_cells {w : World} {base n : Nat} {v : Value} {bs : List Int} (h : w.ownsRow base 5 1 v n (nums .u8 bs)) : ∃ A c o, v = .slice A n c ∧ n ≤ c ∧ ReadsInt w .u8 A n bs ∧ (0 < n → A = some ⟨o, 0, none⟩ ∧ base ≤ o ∧ OwnCells w o n) := by
  obtain ⟨A, c, rfl, hr⟩ := own_reads h
  rcases h.2 with ⟨h1, h2⟩ | ⟨g, cap, cur, e, h3, h4, h5, h6, h7, h8⟩
  · injection h1 with h1 _ h3
    subst h1 h3
    exact ⟨none, 0, 0, rfl, by omega, hr, fun h => by omega⟩
  · injection e with e1 _ e2
    subst e1 e2
    refine ⟨_, _, g, rfl, h5, hr, fun hn => ⟨rfl, h3, cur, h4, fun i hi => ?_⟩⟩
    obtain ⟨ad, e, hc⟩ := hr.2.2 hn
    injection e with e
    subst e
    have := hc i hi
    rw [add_plain, blk_cell h4 i] at this
    exact ⟨_, this⟩
end Go.Proofs.Ytnlbmhojjjjpdaa.Pk
