/- Texts of one claim, slimmed and merged by slim.py. -/
import Derived.Test.YtiaccdaeomaogaaDoorP22
import Derived.Test.YtiaccdaeomaogaaDoorPProgEnds1
namespace Go.Proofs.YtiaccdaeomaogaaDoor.F
open Go.RowKit Go.Proofs.YtiaccdaeomaogaaDoorW.PrintWords Go.Proofs.YtiaccdaeomaogaaDoorW.PrintLast Go.Proofs.YtiaccdaeomaogaaDoorW.PrintMore
set_option linter.unusedVariables false
set_option linter.unusedSimpArgs false
noncomputable def costE (l : List S67) (en : List S69) (j : Nat) : Int :=
  1 + (if (rd_T67 l (j : Int)).f0 = 2 ∧ 0 < (evV en (rd_T67 l (j : Int)).f3).1 then (evV en (rd_T67 l (j : Int)).f3).1 else 0)
theorem costE_pos (l : List S67) (en : List S69) (j : Nat) : 1 ≤ costE l en j := by
  unfold costE; split <;> omega
noncomputable def preE (l : List S67) (en : List S69) : Nat → Int
  | 0 => 0
  | j + 1 => preE l en j + costE l en j
theorem preE_le (l : List S67) (en : List S69) (i : Nat) : ∀ m : Nat, preE l en i + m ≤ preE l en (i + m)
  | 0 => by simp
  | m + 1 => by
    have h1 := preE_le l en i m
    have h2 := costE_pos l en (i + m)
    show preE l en i + ((m + 1 : Nat) : Int) ≤ preE l en (i + m) + costE l en (i + m)
    omega
theorem preE_lt (l : List S67) (en : List S69) {i j : Nat} (h : i ≤ j) : preE l en i + (j - i : Nat) ≤ preE l en j := by
  have := preE_le l en i (j - i)
  rwa [show i + (j - i) = j by omega] at this
noncomputable def remE (l : List S67) (en : List S69) (pc left : Int) : Int :=
  preE l en l.length - (if 0 < left then preE l en (pc.toNat + 1) - left else preE l en pc.toNat)
theorem remE_pos {l : List S67} {en : List S69} {pc left : Int} (h0 : 0 ≤ pc) (h : pc < l.length) : 0 < remE l en pc left := by
  have h1 := preE_lt l en (show pc.toNat + 1 ≤ l.length by omega)
  have h2 := preE_lt l en (show pc.toNat ≤ l.length by omega)
  unfold remE
  split <;> omega
theorem scan_rem {l : List S67} {en : List S69} {pc left : Int} (hR : RightP l pc left) (hl : l.length ≤ 100) (hL : left ≤ 9223372036854775807) (hp : pc ≠ (l.length : Int))
    (hG : ∀ i : Nat, i < l.length → (rd_T67 l (i : Int)).f0 = 6 → (i : Int) < (rd_T67 l (i : Int)).f4)
    (hW : ∀ i : Nat, i < l.length → (rd_T67 l (i : Int)).f0 = 1 → (evV en (rd_T67 l (i : Int)).f3).1 ≠ 0)
    (he : (scanP l pc left en).2.2.2.2 = 0) : remE l en (scanP l pc left en).1 (scanP l pc left en).2.1 ≤ remE l en pc left - 1 := by
  obtain ⟨r0, r1, r2, r3⟩ := hR
  obtain ⟨i, rfl⟩ : ∃ i : Nat, pc = (i : Int) := ⟨pc.toNat, by omega⟩
  have hi : i < l.length := by omega
  have gG := hG i hi
  have gW := hW i hi
  have hc := costE_pos l en i
  have hs : preE l en (i + 1) = preE l en i + costE l en i := rfl
  have hce : costE l en i = 1 + (if (rd_T67 l (i : Int)).f0 = 2 ∧ 0 < (evV en (rd_T67 l (i : Int)).f3).1 then (evV en (rd_T67 l (i : Int)).f3).1 else 0) := rfl
  have w1 : wrap64 ((i : Int) + 1) = ((i + 1 : Nat) : Int) := by unfold wrap64; omega
  unfold scanP at he ⊢
  rw [if_neg hp] at he ⊢
  by_cases hn : (numP en (rd_T67 l (i : Int)) left).2 = 0
  · rw [if_pos hn] at he ⊢
    by_cases hg : (goP (rd_T67 l (i : Int)) i left (numP en (rd_T67 l (i : Int)) left).1 l.length).2.2 = 0
    · rw [if_pos hg] at he ⊢
      clear he
      show remE l en (goP (rd_T67 l (i : Int)) i left (numP en (rd_T67 l (i : Int)) left).1 l.length).1.1 (goP (rd_T67 l (i : Int)) i left (numP en (rd_T67 l (i : Int)) left).1 l.length).1.2 ≤ _
      generalize hsd : rd_T67 l (i : Int) = s at *
      have nx : left = 0 ∨ left = 1 → remE l en ((i + 1 : Nat) : Int) 0 ≤ remE l en i left - 1 := by
        intro h
        unfold remE
        rw [if_neg (by omega), Int.toNat_natCast, Int.toNat_natCast]
        split <;> omega
      have l0 : s.f0 ≠ 2 → left = 0 := fun h => r3.elim id (fun h2 => absurd h2.2 h)
      unfold goP at hg ⊢
      by_cases c0 : s.f0 = 0 ∨ s.f0 = 3 ∨ s.f0 = 4 ∨ s.f0 = 5
      · simp only [if_pos c0, w1]; exact nx (.inl (l0 (by omega)))
      simp only [if_neg c0] at hg ⊢
      by_cases c7 : s.f0 = 7
      · simp only [if_pos c7, w1]; exact nx (.inl (l0 (by omega)))
      simp only [if_neg c7] at hg ⊢
      by_cases c1 : s.f0 = 1
      · have hl0 := l0 (by omega)
        have e1 : numP en s left = evV en s.f3 := by unfold numP; rw [if_pos ⟨by rw [c1]; rfl, hl0⟩]
        simp only [if_pos c1, e1, if_neg (gW c1), w1]; exact nx (.inl hl0)
      simp only [if_neg c1] at hg ⊢
      by_cases c2 : s.f0 = 2
      · simp only [if_pos c2]
        by_cases d1 : left > 1
        · simp only [if_pos d1, show wrap64 (left - 1) = left - 1 by unfold wrap64; omega]
          unfold remE
          rw [if_pos (by omega), if_pos (by omega)]; omega
        simp only [if_neg d1]
        by_cases d0 : left = 0
        · have e1 : numP en s left = evV en s.f3 := by unfold numP; rw [if_pos ⟨by rw [c2]; rfl, d0⟩]
          simp only [if_pos d0, e1]
          by_cases dn : (evV en s.f3).1 > 0
          · simp only [if_pos dn]
            rw [if_pos ⟨c2, dn⟩] at hce
            unfold remE
            rw [if_pos dn, if_neg (by omega), Int.toNat_natCast]; omega
          · simp only [if_neg dn, w1]; exact nx (.inl d0)
        · simp only [if_neg d0, w1]; exact nx (.inr (by omega))
      simp only [if_neg c2] at hg ⊢
      have hl0 := l0 c2
      by_cases c6 : s.f0 = 6
      · simp only [if_pos c6] at hg ⊢
        by_cases d1 : s.f4 < 0
        · simp only [if_pos d1] at hg; exact absurd hg (by decide)
        simp only [if_neg d1] at hg ⊢
        by_cases d2 : s.f4 > (l.length : Int)
        · simp only [if_pos d2] at hg; exact absurd hg (by decide)
        simp only [if_neg d2]
        have g1 := gG c6
        have h1 := preE_lt l en (show i + 1 ≤ s.f4.toNat by omega)
        unfold remE
        rw [if_neg (by omega), if_neg (by omega), Int.toNat_natCast]; omega
      · simp only [if_neg c6, w1]; exact nx (.inl hl0)
    · rw [if_neg hg] at he; exact absurd he (show ¬ (1 : Int) = 0 by decide)
  · rw [if_neg hn] at he; exact absurd he hn
theorem ends_loop {l : List S67} {en : List S69} {most : Int} (hl : l.length ≤ 100) (hE : ∀ s ∈ l, OkE s.f3) (hC : OkC en) (hm : most = preE l en l.length) (hb : most ≤ 100000)
    (hG : ∀ i : Nat, i < l.length → (rd_T67 l (i : Int)).f0 = 6 → (i : Int) < (rd_T67 l (i : Int)).f4)
    (hW : ∀ i : Nat, i < l.length → (rd_T67 l (i : Int)).f0 = 1 → (evV en (rd_T67 l (i : Int)).f3).1 ≠ 0) :
    ∀ (m : Nat) (i pc left : Int) (over : Bool), (most - i).toNat ≤ m → 0 ≤ i → over = (pc == (l.length : Int)) → RightP l pc left → I64 left → remE l en pc left ≤ most - i →
      Tot (fun k => malthouselaw11_ProgEnds.l1 k l en most over i pc left) true
  | m, i, pc, left, over, h1, h0, ho, hR, hI, hr => by
    have J : over = true → Tot (fun k => malthouselaw11_ProgEnds.j5 k l en most over i false pc left) true := fun e => Tot.succ (by
      simp only [malthouselaw11_ProgEnds.j5, if_neg (show ¬ (false = true) by decide), e]; exact Tot.const _)
    refine Tot.succ ?_
    by_cases hi : i < most
    · simp only [malthouselaw11_ProgEnds.l1, if_pos hi]
      cases hov : over with
      | true => rw [hov] at J; exact J rfl
      | false =>
        have hp : pc ≠ (l.length : Int) := fun h => by rw [ho, h, beq_self_eq_true] at hov; cases hov
        have ht := scan_tot (en := en) hR hE hC
        have hL : left ≤ 9223372036854775807 := by unfold I64 at hI; omega
        obtain ⟨f1, f2, f3⟩ := scan_facts (en := en) hR hl hL
        simp only [Bool.not_false]
        refine Tot.succ ?_
        simp only [malthouselaw11_ProgEnds.j5, if_true]
        refine Tot.bind ht ?_
        by_cases he : (scanP l pc left en).2.2.2.2 = 0
        · obtain ⟨g1, g2, g3⟩ := f1 he
          simp only [if_pos he, show wrap64 (i + 1) = i + 1 by unfold wrap64; omega]
          have hd := scan_rem hR hl hL hp hG hW he
          match m, h1 with
          | 0, h1 => exact absurd h1 (by omega)
          | m + 1, h1 => exact ends_loop hl hE hC hm hb hG hW m (i + 1) _ _ _ (by omega) (by omega) g2 g1 (scan_left hI hC hE hR) (by omega)
        · simp only [if_neg he]; exact Tot.const _
    · have hov : over = true := by
        rw [ho, beq_iff_eq]
        obtain ⟨r0, r1, _⟩ := hR
        by_cases h : pc = (l.length : Int)
        · exact h
        · have := remE_pos (l := l) (en := en) (left := left) r0 (by omega); omega
      simp only [malthouselaw11_ProgEnds.l1, if_neg hi]
      exact J hov
theorem ends_first {l : List S67} {en : List S69} (hl : l.length ≤ 100) (hE : ∀ s ∈ l, OkE s.f3) (hC : OkC en)
    (hG : ∀ i : Nat, i < l.length → (rd_T67 l (i : Int)).f0 = 6 → (i : Int) < (rd_T67 l (i : Int)).f4) :
    ∀ (m i : Nat), i + m = l.length → preE l en i ≤ 21 * (i : Int) → (∀ j : Nat, j < i → (rd_T67 l (j : Int)).f0 = 1 → (evV en (rd_T67 l (j : Int)).f3).1 ≠ 0) →
      Tot (fun k => malthouselaw11_ProgEnds.l0 k l en ((l.length : Int) + preE l en i - i) (i : Int)) true
  | 0, i, e, hb, hW => by
    obtain rfl : i = l.length := (by omega)
    refine Tot.succ ?_
    simp only [malthouselaw11_ProgEnds.l0, if_neg (show ¬ ((l.length : Nat) : Int) < (l.length : Int) by omega)]
    have z : (l.length : Int) + preE l en l.length - (l.length : Int) = preE l en l.length := by omega
    rw [z]
    have ez : preE l en 0 = 0 := rfl
    refine ends_loop hl hE hC rfl (by omega) hG hW _ 0 0 0 _ (Nat.le_refl _) (by omega) ?_ ⟨by omega, by omega, by omega, .inl rfl⟩ (by unfold I64; omega) ?_
    · by_cases h : (l.length : Int) = 0
      · rw [h]
      · rw [beq_eq_false_iff_ne.mpr h, beq_eq_false_iff_ne.mpr (fun h2 => h h2.symm)]
    · unfold remE; rw [if_neg (by omega)]; show _ - preE l en 0 ≤ _; omega
  | m + 1, i, e, hb, hW => by
    have hi : (i : Int) < (l.length : Int) := by omega
    have h0 : (0 : Int) ≤ (i : Int) := by omega
    have hce : costE l en i = 1 + (if (rd_T67 l (i : Int)).f0 = 2 ∧ 0 < (evV en (rd_T67 l (i : Int)).f3).1 then (evV en (rd_T67 l (i : Int)).f3).1 else 0) := rfl
    have hs : preE l en (i + 1) = preE l en i + costE l en i := rfl
    have hp0 := preE_lt l en (Nat.zero_le i)
    have ez : preE l en 0 = 0 := rfl
    have w1 : wrap64 ((i : Int) + 1) = ((i + 1 : Nat) : Int) := by unfold wrap64; omega
    have J2 : Tot (fun k => malthouselaw11_ProgEnds.j2 k l en ((l.length : Int) + preE l en i - i) (i : Int) true) true := Tot.succ (by simp only [malthouselaw11_ProgEnds.j2, if_true]; exact Tot.const _)
    obtain ⟨v1, v2⟩ := evV_tot (hE _ (rdS_mem (show i < l.length by omega))) hC
    have J3 : Tot (fun k => malthouselaw11_ProgEnds.j3 k l en ((l.length : Int) + preE l en i - i) (i : Int) (evV en (rd_T67 l (i : Int)).f3).1 true) true := Tot.succ (by simp only [malthouselaw11_ProgEnds.j3, if_true]; exact Tot.const _)
    have N3 : ((rd_T67 l (i : Int)).f0 = 1 → (evV en (rd_T67 l (i : Int)).f3).1 ≠ 0) → ((rd_T67 l (i : Int)).f0 = 2 → (evV en (rd_T67 l (i : Int)).f3).1 ≤ 20) →
        Tot (fun k => malthouselaw11_ProgEnds.j3 k l en ((l.length : Int) + preE l en i - i) (i : Int) (evV en (rd_T67 l (i : Int)).f3).1 false) true := fun q1 q2 => by
      refine Tot.succ ?_
      simp only [malthouselaw11_ProgEnds.j3, if_neg (show ¬ (false = true) by decide), if_pos h0, if_pos hi, w1]
      have hW2 : ∀ j : Nat, j < i + 1 → (rd_T67 l (j : Int)).f0 = 1 → (evV en (rd_T67 l (j : Int)).f3).1 ≠ 0 := fun j hj => by
        by_cases h : j < i
        · exact hW j h
        · obtain rfl : j = i := (by omega); exact q1
      have nx : preE l en (i + 1) ≤ 21 * ((i + 1 : Nat) : Int) → Tot (fun k => malthouselaw11_ProgEnds.l0 k l en ((l.length : Int) + preE l en (i + 1) - ((i + 1 : Nat) : Int)) ((i + 1 : Nat) : Int)) true := fun hb2 => ends_first hl hE hC hG m (i + 1) (by omega) hb2 hW2
      by_cases c2 : (rd_T67 l (i : Int)).f0 = 2
      · simp only [if_pos c2]
        have hq := q2 c2
        by_cases cn : (evV en (rd_T67 l (i : Int)).f3).1 > 0
        · rw [if_pos ⟨c2, cn⟩] at hce
          simp only [if_pos cn]
          rw [show wrap64 ((l.length : Int) + preE l en i - i + (evV en (rd_T67 l (i : Int)).f3).1) = (l.length : Int) + preE l en (i + 1) - ((i + 1 : Nat) : Int) by unfold wrap64; omega]
          exact nx (by omega)
        · rw [if_neg (fun h => cn h.2)] at hce
          simp only [if_neg cn]
          rw [show (l.length : Int) + preE l en i - i = (l.length : Int) + preE l en (i + 1) - ((i + 1 : Nat) : Int) by omega]
          exact nx (by omega)
      · rw [if_neg (fun h => c2 h.1)] at hce
        simp only [if_neg c2]
        rw [show (l.length : Int) + preE l en i - i = (l.length : Int) + preE l en (i + 1) - ((i + 1 : Nat) : Int) by omega]
        exact nx (by omega)
    have N2 : Tot (fun k => malthouselaw11_ProgEnds.j2 k l en ((l.length : Int) + preE l en i - i) (i : Int) false) true := by
      refine Tot.succ ?_
      simp only [malthouselaw11_ProgEnds.j2, if_neg (show ¬ (false = true) by decide), if_pos h0, if_pos hi]
      refine Tot.bind v1 ?_
      have D2 : ((rd_T67 l (i : Int)).f0 = 1 → (evV en (rd_T67 l (i : Int)).f3).1 ≠ 0) → Tot (fun k => malthouselaw11_ProgEnds.j3 k l en ((l.length : Int) + preE l en i - i) (i : Int) (evV en (rd_T67 l (i : Int)).f3).1 (decide ((evV en (rd_T67 l (i : Int)).f3).1 > 20))) true := fun q1 => by
        by_cases c : (evV en (rd_T67 l (i : Int)).f3).1 > 20
        · rw [decide_eq_true c]; exact J3
        · rw [decide_eq_false c]; exact N3 q1 (fun _ => by omega)
      by_cases c1 : (rd_T67 l (i : Int)).f0 = 1
      · simp only [if_pos c1]
        by_cases ce : (evV en (rd_T67 l (i : Int)).f3).2 = 0
        · simp only [if_pos ce]
          by_cases cz : (evV en (rd_T67 l (i : Int)).f3).1 = 0
          · rw [cz] at J3; simp only [cz, if_true]; exact J3
          · simp only [if_neg cz, if_neg (show ¬ (rd_T67 l (i : Int)).f0 = 2 by omega)]
            exact N3 (fun _ => cz) (fun h => absurd h (by omega))
        · simp only [if_neg ce]; exact J3
      · simp only [if_neg c1]
        by_cases c2 : (rd_T67 l (i : Int)).f0 = 2
        · simp only [if_pos c2]; exact D2 (fun h => absurd h c1)
        · simp only [if_neg c2]; exact N3 (fun h => absurd h c1) (fun h => absurd h c2)
    refine Tot.succ ?_
    simp only [malthouselaw11_ProgEnds.l0, if_pos hi, if_pos h0]
    by_cases c6 : (rd_T67 l (i : Int)).f0 = 6
    · simp only [if_pos c6]
      by_cases c : (rd_T67 l (i : Int)).f4 > (l.length : Int)
      · rw [decide_eq_true c]; exact J2
      · rw [decide_eq_false c]; exact N2
    · simp only [if_neg c6]; exact N2
theorem ProgEnds_pure (l : List S67) (en : List S69) (hI : ∀ y ∈ l, OkI y.f3) (hC : OkC en) : ∃ k, malthouselaw11_ProgEnds.f k l en = some true := by
  suffices h : Tot (fun k => malthouselaw11_ProgEnds.f k l en) true by
    obtain ⟨K, hK⟩ := h; exact ⟨K, hK K (Nat.le_refl _)⟩
  obtain ⟨b1, hb1, k1⟩ := Light11_tot l hI
  obtain ⟨b2, hb2, k2⟩ := cells11_tot en
  have J : Tot (fun k => malthouselaw11_ProgEnds.j0 k l en true true) true := Tot.succ (by simp only [malthouselaw11_ProgEnds.j0, if_true]; exact Tot.const _)
  unfold malthouselaw11_ProgEnds.f
  refine Tot.bind awake11_tot (Tot.bind hb1 (Tot.bind hb2 ?_))
  simp only [if_true]
  cases b1 with
  | false => simp only [if_neg (show ¬ (false = true) by decide)]; exact J
  | true =>
  cases b2 with
  | false => simp only [if_true, if_neg (show ¬ (false = true) by decide)]; exact J
  | true =>
  simp only [if_true]
  have hl := (k1 rfl).1
  obtain ⟨b3, hb3, k3⟩ := Ends_tot l (by omega)
  refine Tot.bind hb3 ?_
  cases b3 with
  | false => exact J
  | true =>
  refine Tot.succ ?_
  simp only [malthouselaw11_ProgEnds.j0, Bool.not_true, if_neg (show ¬ (false = true) by decide)]
  have h := ends_first (en := en) hl (fun s hs => ((k1 rfl).2 s hs).1) hC (k3 rfl) l.length 0 (by omega) (by show (0 : Int) ≤ _; omega) (fun j hj => absurd hj (by omega))
  rw [show (l.length : Int) + preE l en 0 - ((0 : Nat) : Int) = (l.length : Int) by show (l.length : Int) + 0 - 0 = _; omega] at h
  exact h
end Go.Proofs.YtiaccdaeomaogaaDoor.F
