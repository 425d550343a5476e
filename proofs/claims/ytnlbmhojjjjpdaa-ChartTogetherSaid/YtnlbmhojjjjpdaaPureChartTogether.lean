/- What states are together does not hang on their order, nor on how often one is there; of one state that is that one; two lists together are what both are, if these are the same; for every input. -/
import Derived.Test.YtnlbmhojjjjpdaaFmalthouselaw10ChartTogether
import Derived.Test.YtnlbmhojjjjpdaaFmalthouselaw10awake
namespace Go.Proofs.Ytnlbmhojjjjpdaa.Pure
open Go.RowKit Go.Proofs.Ytnlbmhojjjjpdaa.F Go.Proofs.YtnlbmhojjjjpdaaW.PrintWords Go.Proofs.YtnlbmhojjjjpdaaW.PrintLast
set_option linter.unusedVariables false
set_option linter.unusedSimpArgs false

def InR (l : List Int) : Prop := ∀ x ∈ l, 0 ≤ x ∧ x < 12
/-- One of the first three ranks. -/
def levB (p q a : Bool) (s k : Int) : Int := if p = true then s else if q = true then (if a = true then s else s + 1) else k
def tailB (f6 f2 f3 f1 f11 f0 : Bool) : Int :=
  if f6 = true then 6 else if f2 = true then 2 else if f3 = true then (if f1 = true then 2 else 3) else if f1 = true then 1 else if f11 = true then (if f0 = true then 1 else 11) else 0
def rollS (f : Int → Bool) (a : Bool) : Int := levB (f 9) (f 10) a 9 (levB (f 7) (f 8) a 7 (levB (f 4) (f 5) a 4 (tailB (f 6) (f 2) (f 3) (f 1) (f 11) (f 0))))
theorem tailB_range (f6 f2 f3 f1 f11 f0 : Bool) : tailB f6 f2 f3 f1 f11 f0 = 6 ∨ tailB f6 f2 f3 f1 f11 f0 = 2 ∨ tailB f6 f2 f3 f1 f11 f0 = 3 ∨ tailB f6 f2 f3 f1 f11 f0 = 1 ∨ tailB f6 f2 f3 f1 f11 f0 = 11 ∨ tailB f6 f2 f3 f1 f11 f0 = 0 := by
  cases f6 <;> cases f2 <;> cases f3 <;> cases f1 <;> cases f11 <;> cases f0 <;> decide
theorem tailB_or (f6 f2 f3 f1 f11 f0 g6 g2 g3 g1 g11 g0 : Bool) (v : Int) (h : tailB f6 f2 f3 f1 f11 f0 = v) (h' : tailB g6 g2 g3 g1 g11 g0 = v) : tailB (f6 || g6) (f2 || g2) (f3 || g3) (f1 || g1) (f11 || g11) (f0 || g0) = v := by
  cases f6 with
  | true => simp [tailB] at h ⊢; exact h
  | false =>
    cases g6 with
    | true => simp [tailB] at h' ⊢; exact h'
    | false =>
      cases f2 with
      | true => simp [tailB] at h ⊢; exact h
      | false =>
        cases g2 with
        | true => simp [tailB] at h' ⊢; exact h'
        | false => subst h; revert h'; cases f3 <;> cases f1 <;> cases f11 <;> cases f0 <;> cases g3 <;> cases g1 <;> cases g11 <;> cases g0 <;> decide
theorem levB_or (p q a p' q' a' : Bool) (s k k' k2 v : Int) (hk : k ≠ s ∧ k ≠ s + 1) (hk' : k' ≠ s ∧ k' ≠ s + 1) (h2 : k = v → k' = v → k2 = v) (h : levB p q a s k = v) (h' : levB p' q' a' s k' = v) : levB (p || p') (q || q') (a || a') s k2 = v := by
  unfold levB at *
  cases p <;> cases q <;> cases a <;> cases p' <;> cases q' <;> cases a' <;> simp_all <;> omega
theorem levB_ne (p q a : Bool) (s k x : Int) (h : x ≠ s) (h1 : x ≠ s + 1) (hk : x ≠ k) : levB p q a s k ≠ x := by
  unfold levB; cases p <;> cases q <;> cases a <;> simp <;> omega
theorem rollS_or (f g : Int → Bool) (a b : Bool) (v : Int) (h : rollS f a = v) (h' : rollS g b = v) : rollS (fun x => f x || g x) (a || b) = v := by
  have t := tailB_range (f 6) (f 2) (f 3) (f 1) (f 11) (f 0)
  have t' := tailB_range (g 6) (g 2) (g 3) (g 1) (g 11) (g 0)
  have o := tailB_or (f 6) (f 2) (f 3) (f 1) (f 11) (f 0) (g 6) (g 2) (g 3) (g 1) (g 11) (g 0) v
  unfold rollS at *
  generalize tailB (f 6) (f 2) (f 3) (f 1) (f 11) (f 0) = k at *
  generalize tailB (g 6) (g 2) (g 3) (g 1) (g 11) (g 0) = k' at *
  simp only []
  generalize tailB (f 6 || g 6) (f 2 || g 2) (f 3 || g 3) (f 1 || g 1) (f 11 || g 11) (f 0 || g 0) = k2 at *
  refine levB_or _ _ _ _ _ _ _ _ _ _ _ ⟨levB_ne _ _ _ _ _ _ (by omega) (by omega) (Ne.symm (levB_ne _ _ _ _ _ _ (by omega) (by omega) (by omega))), levB_ne _ _ _ _ _ _ (by omega) (by omega) (Ne.symm (levB_ne _ _ _ _ _ _ (by omega) (by omega) (by omega)))⟩ ⟨levB_ne _ _ _ _ _ _ (by omega) (by omega) (Ne.symm (levB_ne _ _ _ _ _ _ (by omega) (by omega) (by omega))), levB_ne _ _ _ _ _ _ (by omega) (by omega) (Ne.symm (levB_ne _ _ _ _ _ _ (by omega) (by omega) (by omega)))⟩ ?_ h h'
  intro e e'
  refine levB_or _ _ _ _ _ _ _ _ _ _ _ ⟨levB_ne _ _ _ _ _ _ (by omega) (by omega) (by omega), levB_ne _ _ _ _ _ _ (by omega) (by omega) (by omega)⟩ ⟨levB_ne _ _ _ _ _ _ (by omega) (by omega) (by omega), levB_ne _ _ _ _ _ _ (by omega) (by omega) (by omega)⟩ ?_ e e'
  intro e e'
  exact levB_or _ _ _ _ _ _ _ _ _ _ _ (by omega) (by omega) o e e'
theorem hasB_iff (l : List Int) (x : Int) : hasB l x = true ↔ x ∈ l := by unfold hasB; simp [List.any_eq_true]
theorem acts_iff (l : List Int) : l.any actB = (hasB l 1 || hasB l 6 || hasB l 2 || hasB l 4 || hasB l 7 || hasB l 9) := by
  rw [Bool.eq_iff_iff]
  simp only [Bool.or_eq_true, hasB_iff, List.any_eq_true, actB, decide_eq_true_eq]
  constructor
  · rintro ⟨x, hx, rfl | rfl | rfl | rfl | rfl | rfl⟩ <;> simp [hx]
  · rintro (((((h | h) | h) | h) | h) | h) <;> exact ⟨_, h, by decide⟩
theorem cntD_pos (l : List Int) : (cntD l = 0) ↔ hasB l 11 = false := by
  rw [Bool.eq_false_iff, ne_eq, hasB_iff]
  unfold cntD
  rw [show ((l.countP (fun x => decide (x = (11 : Int))) : Nat) : Int) = 0 ↔ l.countP (fun x => decide (x = (11 : Int))) = 0 from by omega, List.countP_eq_zero]
  simp only [decide_eq_true_eq]
  constructor
  · intro h h'; exact h 11 h' rfl
  · intro h x hx e; subst e; exact h hx
theorem cntD_all (l : List Int) : (cntD l = l.length) ↔ ∀ x ∈ l, x = 11 := by
  unfold cntD
  rw [show ((l.countP (fun x => decide (x = (11 : Int))) : Nat) : Int) = l.length ↔ l.countP (fun x => decide (x = (11 : Int))) = l.length from by omega, List.countP_eq_length]
  simp only [decide_eq_true_eq]
theorem roll_S (l : List Int) (hl : InR l) : rollP l = rollS (hasB l) (l.any actB) := by
  unfold rollP rollAt rollS levB
  rw [show (9 + 1 : Int) = 10 from rfl, show (7 + 1 : Int) = 8 from rfl, show (4 + 1 : Int) = 5 from rfl]
  by_cases h9 : hasB l 9 = true
  · rw [if_pos h9, if_pos h9]
  rw [if_neg h9, if_neg h9]
  by_cases h10 : hasB l 10 = true
  · rw [if_pos h10, if_pos h10]
  rw [if_neg h10, if_neg h10]
  by_cases h7 : hasB l 7 = true
  · rw [if_pos h7, if_pos h7]
  rw [if_neg h7, if_neg h7]
  by_cases h8 : hasB l 8 = true
  · rw [if_pos h8, if_pos h8]
  rw [if_neg h8, if_neg h8]
  by_cases h4 : hasB l 4 = true
  · rw [if_pos h4, if_pos h4]
  rw [if_neg h4, if_neg h4]
  by_cases h5 : hasB l 5 = true
  · rw [if_pos h5, if_pos h5]
  rw [if_neg h5, if_neg h5]
  unfold restP tailB
  by_cases h6 : hasB l 6 = true
  · rw [if_pos h6, if_pos h6]
  rw [if_neg h6, if_neg h6]
  by_cases h2 : hasB l 2 = true
  · rw [if_pos h2, if_pos h2]
  rw [if_neg h2, if_neg h2]
  by_cases h3 : hasB l 3 = true
  · rw [if_pos h3, if_pos h3]
  rw [if_neg h3, if_neg h3]
  by_cases h1 : hasB l 1 = true
  · rw [if_pos h1, if_pos h1]
  rw [if_neg h1, if_neg h1]
  by_cases h11 : hasB l 11 = true
  · rw [if_neg (by rw [cntD_pos]; simp [h11]), if_pos h11]
    simp only [hasB_iff] at *
    have hmem : ∀ x ∈ l, x = 0 ∨ x = 11 := by
      intro x hx
      have hr := hl x hx
      have hc : x = 0 ∨ x = 1 ∨ x = 2 ∨ x = 3 ∨ x = 4 ∨ x = 5 ∨ x = 6 ∨ x = 7 ∨ x = 8 ∨ x = 9 ∨ x = 10 ∨ x = 11 := by omega
      rcases hc with e | e | e | e | e | e | e | e | e | e | e | e <;> subst e <;> first | exact .inl rfl | exact .inr rfl | (exfalso; first | exact h1 hx | exact h2 hx | exact h3 hx | exact h4 hx | exact h5 hx | exact h6 hx | exact h7 hx | exact h8 hx | exact h9 hx | exact h10 hx)
    by_cases h0 : (0 : Int) ∈ l
    · rw [if_neg (by rw [cntD_all]; intro h; exact absurd (h 0 h0) (by decide)), if_pos h0]
    · rw [if_pos (by rw [cntD_all]; intro x hx; rcases hmem x hx with e | e; exact absurd (e ▸ hx) h0; exact e), if_neg h0]
  · rw [if_pos (by rw [cntD_pos]; simpa using h11), if_neg h11]
theorem roll_mem (l m : List Int) (hl : InR l) (h : ∀ x, x ∈ l ↔ x ∈ m) : rollP l = rollP m := by
  have hb : hasB l = hasB m := by funext x; rw [Bool.eq_iff_iff, hasB_iff, hasB_iff]; exact h x
  rw [roll_S l hl, roll_S m (fun x hx => hl x ((h x).mpr hx)), acts_iff, acts_iff, hb]
theorem roll_both (l m : List Int) (hl : InR l) (hm : InR m) (h : rollP m = rollP l) : rollP (l ++ m) = rollP l := by
  have hlm : InR (l ++ m) := fun x hx => by rcases List.mem_append.mp hx with h | h; exact hl x h; exact hm x h
  have hb : hasB (l ++ m) = fun x => hasB l x || hasB m x := by unfold hasB; funext x; rw [List.any_append]
  rw [roll_S _ hlm, hb, List.any_append]
  exact rollS_or _ _ _ _ _ (roll_S l hl).symm ((roll_S m hm).symm.trans h)
theorem roll_one (a : Int) (h0 : 0 ≤ a) (h1 : a < 12) : rollP [a] = a ∧ rollP [a, a] = a := by
  have hc : a = 0 ∨ a = 1 ∨ a = 2 ∨ a = 3 ∨ a = 4 ∨ a = 5 ∨ a = 6 ∨ a = 7 ∨ a = 8 ∨ a = 9 ∨ a = 10 ∨ a = 11 := by omega
  rcases hc with e | e | e | e | e | e | e | e | e | e | e | e <;> subst e <;> decide +kernel
theorem rollS_range (f : Int → Bool) (a : Bool) : 0 ≤ rollS f a ∧ rollS f a < 12 := by
  have t := tailB_range (f 6) (f 2) (f 3) (f 1) (f 11) (f 0)
  unfold rollS
  generalize tailB (f 6) (f 2) (f 3) (f 1) (f 11) (f 0) = k at *
  unfold levB
  repeat' split
  all_goals omega
theorem roll_range (l : List Int) (hl : InR l) : 0 ≤ rollP l ∧ rollP l < 12 := by rw [roll_S l hl]; exact rollS_range _ _
theorem roll_acts (l : List Int) (hl : InR l) (ha : l.any actB = true) : actB (rollP l) = true := by
  rw [roll_S l hl, ha]
  rw [acts_iff] at ha
  unfold rollS
  revert ha
  generalize hasB l 9 = f9
  generalize hasB l 10 = f10
  generalize hasB l 7 = f7
  generalize hasB l 8 = f8
  generalize hasB l 4 = f4
  generalize hasB l 5 = f5
  generalize hasB l 6 = f6
  generalize hasB l 2 = f2
  generalize hasB l 3 = f3
  generalize hasB l 1 = f1
  generalize hasB l 11 = f11
  generalize hasB l 0 = f0
  cases f9
  · cases f10
    · cases f7
      · cases f8
        · cases f4
          · cases f5
            · cases f6 <;> cases f2 <;> cases f3 <;> cases f1 <;> cases f11 <;> cases f0 <;> decide
            · intro _; simp [levB]; decide
          · intro _; simp [levB]; decide
        · intro _; simp [levB]; decide
      · intro _; simp [levB]; decide
    · intro _; simp [levB]; decide
  · intro _; simp [levB]; decide
theorem Acting_b (x : Int) : chart_Acting.f x = some (actB x) := acting_f x
theorem Roll_b (l : List Int) (h : l.length ≤ 1000) : chart_Roll.f l = some (rollP l) := by unfold chart_Roll.f; rw [if_pos (by omega)]
theorem l3_run (x : List Int) (hl : InR x) (hn : x.length ≤ 300) (d : Nat) : ∀ (k i : Nat) (b : Bool), i + d = x.length → d < k → b = (x.take i).any actB → malthouselaw10_ChartTogether.l3 k x true (rollP x) b (i : Int) = some true := by
  induction d with
  | zero =>
    intro k i b hi hk hb
    obtain ⟨k, rfl⟩ : ∃ m, k = m + 1 := ⟨k - 1, by omega⟩
    have hr := roll_range x hl
    rw [List.take_of_length_le (by omega)] at hb
    simp only [malthouselaw10_ChartTogether.l3]
    rw [if_neg (by omega), if_pos trivial, if_pos hr.1, if_pos hr.2]
    cases b with
    | true => rw [if_pos rfl, Acting_b, roll_acts x hl hb.symm]; rfl
    | false => rw [if_neg (by decide)]
  | succ d ih =>
    intro k i b hi hk hb
    obtain ⟨k, rfl⟩ : ∃ m, k = m + 1 := ⟨k - 1, by omega⟩
    have hlt : i < x.length := by omega
    have hrd : rd x (i : Int) = x[i] := by simp [rd, hlt]
    have htk : (x.take (i + 1)).any actB = ((x.take i).any actB || actB x[i]) := by rw [List.take_succ_eq_append_getElem hlt, List.any_append]; simp
    simp only [malthouselaw10_ChartTogether.l3]
    rw [if_pos (by omega), show wrap64 ((i : Int) + 1) = ((i + 1 : Nat) : Int) from by unfold wrap64; omega]
    cases b with
    | true => rw [if_pos rfl]; exact ih k (i + 1) true (by omega) (by omega) (by rw [htk, ← hb]; rfl)
    | false =>
      rw [if_neg (by decide), if_pos (by omega), Acting_b, hrd]
      simp only [Option.bind_some]
      exact ih k (i + 1) _ (by omega) (by omega) (by rw [htk, ← hb]; rfl)
theorem j4_run (x y : List Int) (hx : InR x) (hy : InR y) (hnx : x.length ≤ 300) (hny : y.length ≤ 300) (k : Nat) (hk : 400 ≤ k) : malthouselaw10_ChartTogether.j4 k x y true (rollP x) false = some true := by
  obtain ⟨k, rfl⟩ : ∃ m, k = m + 1 + 1 := ⟨k - 2, by omega⟩
  have h5 : malthouselaw10_ChartTogether.j5 (k + 1) x true (rollP x) false = some true := by
    simp only [malthouselaw10_ChartTogether.j5]
    rw [if_neg (by decide)]
    exact l3_run x hx hnx x.length k 0 false (by omega) (by omega) rfl
  simp only [malthouselaw10_ChartTogether.j4]
  rw [if_neg (by decide), if_pos (by simp; omega)]
  simp only [Option.bind_some, List.nil_append]
  rw [if_pos (by omega)]
  by_cases h0 : (y.length : Int) > 0
  · rw [if_pos h0, Roll_b y (by omega)]
    simp only [Option.bind_some]
    by_cases he : rollP y = rollP x
    · rw [if_pos he, Roll_b (x ++ y) (by rw [List.length_append]; omega)]
      simp only [Option.bind_some]
      rw [roll_both x y hx hy he, show (rollP x != rollP x) = false from by simp]
      exact h5
    · rw [if_neg he]; exact h5
  · rw [if_neg h0]; exact h5
theorem l2_run (x y : List Int) (hx : InR x) (hy : InR y) (hnx : x.length ≤ 300) (hny : y.length ≤ 300) (h0 : 0 < x.length) (d : Nat) : ∀ (k : Nat) (t : List Int), d ≤ x.length → d + 500 < k → t.length = 2 * (x.length - d) → (∀ z, z ∈ t ↔ z ∈ x.drop d) → malthouselaw10_ChartTogether.l2 k x y true t ((d : Int) - 1) = some true := by
  induction d with
  | zero =>
    intro k t hd hk ht hm
    obtain ⟨k, rfl⟩ : ∃ m, k = m + 1 := ⟨k - 1, by omega⟩
    simp only [malthouselaw10_ChartTogether.l2]
    have hrd : 0 ≤ rd x 0 ∧ rd x 0 < 12 := by
      have : rd x 0 = x[0] := by simp [rd, h0]
      rw [this]; exact hx _ (List.getElem_mem h0)
    have ho := roll_one (rd x 0) hrd.1 hrd.2
    rw [if_neg (by omega), Roll_b x (by omega), Roll_b t (by omega)]
    simp only [Option.bind_some]
    rw [roll_mem t x (fun z hz => hx z ((hm z).mp hz)) hm, if_pos rfl, if_pos (by omega), Roll_b [rd x 0] (by simp), ho.1]
    simp only [Option.bind_some]
    rw [if_pos trivial, Roll_b [rd x 0, rd x 0] (by simp), ho.2]
    simp only [Option.bind_some]
    rw [show (rd x 0 != rd x 0) = false from by simp]
    exact j4_run x y hx hy hnx hny k (by omega)
  | succ d ih =>
    intro k t hd hk ht hm
    obtain ⟨k, rfl⟩ : ∃ m, k = m + 1 := ⟨k - 1, by omega⟩
    have hlt : d < x.length := by omega
    have hrd : rd x (d : Int) = x[d] := by simp [rd, hlt]
    simp only [malthouselaw10_ChartTogether.l2]
    rw [show (((d + 1 : Nat) : Int) - 1) = (d : Int) from by omega, if_pos (by omega), if_pos (by omega), if_pos (by omega), if_pos (by omega)]
    simp only [Option.bind_some]
    rw [if_pos (by simp; omega), show wrap64 ((d : Int) - 1) = (d : Int) - 1 from by unfold wrap64; omega, hrd]
    refine ih k _ (by omega) (by omega) (by simp; omega) (fun z => ?_)
    rw [List.drop_eq_getElem_cons hlt]
    simp only [List.mem_append, List.mem_cons, List.not_mem_nil, or_false, hm z]
    constructor
    · rintro ((h | h) | h)
      · exact .inr h
      · exact .inl h
      · exact .inl h
    · rintro (h | h)
      · exact .inr h
      · exact .inl (.inl h)
theorem l1_run (x y : List Int) (hx : InR x) (hnx : x.length ≤ 300) (hny : y.length ≤ 300) (h0 : 0 < x.length) (d : Nat) : ∀ (k i : Nat), i + d = y.length → d + 1000 < k → (∀ j : Nat, (hj : j < y.length) → j < i → 0 ≤ y[j] ∧ y[j] < 12) → malthouselaw10_ChartTogether.l1 k x y true (i : Int) = some true := by
  induction d with
  | zero =>
    intro k i hi hk hr
    obtain ⟨k, rfl⟩ : ∃ m, k = m + 1 := ⟨k - 1, by omega⟩
    simp only [malthouselaw10_ChartTogether.l1]
    rw [if_neg (by omega), show wrap64 ((x.length : Int) - 1) = (x.length : Int) - 1 from by unfold wrap64; omega]
    refine l2_run x y hx (fun z hz => ?_) hnx hny h0 x.length k [] (Nat.le_refl _) (by omega) (by simp) (by simp)
    obtain ⟨j, hj, rfl⟩ := List.mem_iff_getElem.mp hz
    exact hr j hj (by omega)
  | succ d ih =>
    intro k i hi hk hr
    obtain ⟨k, rfl⟩ : ∃ m, k = m + 1 := ⟨k - 1, by omega⟩
    have hlt : i < y.length := by omega
    have hrd : rd y (i : Int) = y[i] := by simp [rd, hlt]
    simp only [malthouselaw10_ChartTogether.l1]
    rw [if_pos (by omega), if_pos (by omega), hrd, show wrap64 ((i : Int) + 1) = ((i + 1 : Nat) : Int) from by unfold wrap64; omega]
    by_cases h1 : y[i] < 0
    · rw [if_pos h1]
    · rw [if_neg h1]
      by_cases h2 : y[i] ≥ 12
      · rw [if_pos h2]
      · rw [if_neg h2]
        refine ih k (i + 1) (by omega) (by omega) (fun j hj hji => ?_)
        rcases Nat.lt_succ_iff_lt_or_eq.mp hji with h | rfl
        · exact hr j hj h
        · exact ⟨by omega, by omega⟩
theorem l0_run (x y : List Int) (hnx : x.length ≤ 300) (hny : y.length ≤ 300) (h0 : 0 < x.length) (d : Nat) : ∀ (k i : Nat), i + d = x.length → d + 2000 < k → (∀ j : Nat, (hj : j < x.length) → j < i → 0 ≤ x[j] ∧ x[j] < 12) → malthouselaw10_ChartTogether.l0 k x y true (i : Int) = some true := by
  induction d with
  | zero =>
    intro k i hi hk hr
    obtain ⟨k, rfl⟩ : ∃ m, k = m + 1 := ⟨k - 1, by omega⟩
    simp only [malthouselaw10_ChartTogether.l0]
    rw [if_neg (by omega)]
    refine l1_run x y (fun z hz => ?_) hnx hny h0 y.length k 0 (by omega) (by omega) (fun j _ hj => absurd hj (Nat.not_lt_zero _))
    obtain ⟨j, hj, rfl⟩ := List.mem_iff_getElem.mp hz
    exact hr j hj (by omega)
  | succ d ih =>
    intro k i hi hk hr
    obtain ⟨k, rfl⟩ : ∃ m, k = m + 1 := ⟨k - 1, by omega⟩
    have hlt : i < x.length := by omega
    have hrd : rd x (i : Int) = x[i] := by simp [rd, hlt]
    simp only [malthouselaw10_ChartTogether.l0]
    rw [if_pos (by omega), if_pos (by omega), hrd, show wrap64 ((i : Int) + 1) = ((i + 1 : Nat) : Int) from by unfold wrap64; omega]
    by_cases h1 : x[i] < 0
    · rw [if_pos h1]
    · rw [if_neg h1]
      by_cases h2 : x[i] ≥ 12
      · rw [if_pos h2]
      · rw [if_neg h2]
        refine ih k (i + 1) (by omega) (by omega) (fun j hj hji => ?_)
        rcases Nat.lt_succ_iff_lt_or_eq.mp hji with h | rfl
        · exact hr j hj h
        · exact ⟨by omega, by omega⟩

theorem ChartTogether : malthouselaw10_ChartTogether.Pure := by
  intro x y _ _ _ _ _ _
  refine ⟨4000, ?_⟩
  unfold malthouselaw10_ChartTogether.f
  rw [at_rounds (fun k => malthouselaw10_awake.mono k) (show 20 ≤ 4000 by omega) (show malthouselaw10_awake.f 20 = some true from by decide +kernel)]
  simp only [Option.bind_some]
  have ht : malthouselaw10_ChartTogether.j0 4000 x y true true = some true := by simp only [malthouselaw10_ChartTogether.j0]; rw [if_pos trivial]
  by_cases h1 : (x.length : Int) > 300
  · rw [if_pos h1]; exact ht
  · rw [if_neg h1]
    by_cases h2 : (y.length : Int) > 300
    · rw [if_pos h2]; exact ht
    · rw [if_neg h2]
      by_cases h3 : (x.length : Int) = 0
      · rw [show ((x.length : Int) == 0) = true from by simpa using h3]; exact ht
      · rw [show ((x.length : Int) == 0) = false from by simpa using h3]
        simp only [malthouselaw10_ChartTogether.j0]
        rw [if_neg (by decide)]
        exact l0_run x y (by omega) (by omega) (by omega) x.length 3999 0 (by omega) (by omega) (fun j _ hj => absurd hj (Nat.not_lt_zero _))
end Go.Proofs.Ytnlbmhojjjjpdaa.Pure
