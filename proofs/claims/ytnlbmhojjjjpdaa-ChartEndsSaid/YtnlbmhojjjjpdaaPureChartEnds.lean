/- Whatever commands came, Abort, and what is done by itself, leads to rest, and each step was an edge; for every input. -/
import Derived.Test.YtnlbmhojjjjpdaaFmalthouselaw10ChartEnds
import Derived.Test.YtnlbmhojjjjpdaaChartA
namespace Go.Proofs.Ytnlbmhojjjjpdaa.Pure
open Go.RowKit Go.Proofs.Ytnlbmhojjjjpdaa.F Go.Proofs.YtnlbmhojjjjpdaaW.PrintWords Go.Proofs.YtnlbmhojjjjpdaaW.PrintLast
set_option linter.unusedVariables false

theorem nextP_out (s c : Int) (h : (s < 0 ∨ 12 ≤ s) ∨ (c < 0 ∨ 8 ≤ c)) : nextP s c = (0, false) := by
  unfold nextP
  repeat' split
  all_goals first | rfl | (exfalso; omega)
theorem next_edge (s c : Int) (h : (nextP s c).2 = true) : 0 ≤ (nextP s c).1 ∧ (nextP s c).1 < 12 ∧ edgeP s (nextP s c).1 = true := by
  rcases cmd_cases c with hc | rfl | rfl | rfl | rfl | rfl | rfl | rfl | rfl
  · rw [nextP_out s c (.inr hc)] at h; exact absurd h (by decide)
  all_goals
    rcases state_cases s with hs | rfl | rfl | rfl | rfl | rfl | rfl | rfl | rfl | rfl | rfl | rfl | rfl
    · rw [nextP_out s _ (.inl hs)] at h; exact absurd h (by decide)
    all_goals (revert h; decide +kernel)
theorem done_edge (s : Int) (h : (doneP s).2 = true) : 0 ≤ (doneP s).1 ∧ (doneP s).1 < 12 ∧ edgeP s (doneP s).1 = true := by
  rcases state_cases s with hs | rfl | rfl | rfl | rfl | rfl | rfl | rfl | rfl | rfl | rfl | rfl | rfl
  · have hn : doneP s = (0, false) := by unfold doneP; iterate 6 rw [if_neg (by omega)]
    rw [hn] at h; exact absurd h (by decide)
  all_goals (revert h; decide +kernel)
theorem ends_tail (s : Int) (h0 : 0 ≤ s) (h1 : s < 12) (k : Nat) (hk : 40 ≤ k) : ((chart_Quiet.f s).bind fun t220 => (if t220 = true then (some true) else ((chart_Next.f k s 6).bind fun bt221 => (if s = 9 then ((chart_Done.f s).bind fun bt223 => (if true = true then (if bt223.2 = true then (if bt223.1 = 10 then ((chart_Quiet.f bt223.1).bind fun t225 => (some t225)) else (some false)) else (some false)) else (some false))) else ((chart_Done.f bt221.1).bind fun bt226 => (if true = true then (if bt221.2 = true then (if bt221.1 = 9 then (if bt226.2 = true then (if bt226.1 = 10 then ((chart_Quiet.f bt226.1).bind fun t228 => (some t228)) else (some false)) else (some false)) else (some false)) else (some false)) else (some false))))))) = some true := by
  rw [Next_ge (by omega)]
  rcases state_cases s with hs | rfl | rfl | rfl | rfl | rfl | rfl | rfl | rfl | rfl | rfl | rfl | rfl
  · omega
  all_goals decide +kernel
theorem ends_l0 (l : List Int) (hl : l.length ≤ 200) (d : Nat) : ∀ (k i : Nat) (s : Int), 0 ≤ s → s < 12 → i + d = l.length → 2 * d + 60 < k → malthouselaw10_ChartEnds.l0 k s l true (i : Int) = some true := by
  induction d with
  | zero =>
    intro k i s h0 h1 hi hk
    obtain ⟨k, rfl⟩ : ∃ m, k = m + 1 := ⟨k - 1, by omega⟩
    simp only [malthouselaw10_ChartEnds.l0]
    rw [if_neg (by omega)]
    exact ends_tail s h0 h1 k (by omega)
  | succ d ih =>
    intro k i s h0 h1 hi hk
    obtain ⟨k, rfl⟩ : ∃ m, k = m + 1 + 1 := ⟨k - 2, by omega⟩
    have step : ∀ (p : Int × Bool), (p.2 = true → 0 ≤ p.1 ∧ p.1 < 12 ∧ edgeP s p.1 = true) → malthouselaw10_ChartEnds.j2 (k + 1) s l true (i : Int) p.1 p.2 = some true := by
      intro p hp
      simp only [malthouselaw10_ChartEnds.j2]
      rw [show wrap64 ((i : Int) + 1) = ((i + 1 : Nat) : Int) from by unfold wrap64; omega]
      by_cases h2 : p.2 = true
      · obtain ⟨a, b, c⟩ := hp h2
        rw [if_pos h2, if_neg (by omega), if_neg (by omega), Edge_ge (by omega), c]
        simp only [Option.bind_some]
        rw [if_pos trivial]
        exact ih k (i + 1) p.1 a b (by omega) (by omega)
      · rw [if_neg h2]
        exact ih k (i + 1) s h0 h1 (by omega) (by omega)
    simp only [malthouselaw10_ChartEnds.l0]
    rw [if_pos (by omega), Done_f]
    simp only [Option.bind_some]
    rw [if_pos (by omega)]
    by_cases hr : rd l (i : Int) ≥ 0
    · rw [if_pos hr, Next_ge (by omega)]
      simp only [Option.bind_some]
      exact step _ (next_edge s _)
    · rw [if_neg hr]
      exact step _ (done_edge s)

theorem ChartEnds : malthouselaw10_ChartEnds.Pure := by
  intro s l _ _ _ _
  refine ⟨1000, ?_⟩
  unfold malthouselaw10_ChartEnds.f
  rw [awake_ge (by omega)]
  simp only [Option.bind_some]
  have ht : malthouselaw10_ChartEnds.j0 1000 s l true true = some true := by simp only [malthouselaw10_ChartEnds.j0]; rw [if_pos trivial]
  by_cases h1 : (l.length : Int) > 200
  · rw [if_pos h1]; exact ht
  · rw [if_neg h1]
    by_cases h2 : s < 0
    · rw [if_pos h2]; exact ht
    · rw [if_neg h2]
      by_cases h3 : s ≥ 12
      · rw [show decide (s ≥ 12) = true from decide_eq_true h3]; exact ht
      · rw [show decide (s ≥ 12) = false from decide_eq_false h3]
        simp only [malthouselaw10_ChartEnds.j0]
        rw [if_neg (by decide)]
        exact ends_l0 l (by omega) l.length 999 0 s (by omega) (by omega) (by omega) (by omega)
end Go.Proofs.Ytnlbmhojjjjpdaa.Pure
