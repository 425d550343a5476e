/- What a loss of power leaves does not act, and is left so by a second one; what was quiet, or held, stays; for every input. -/
import Derived.Test.YtnlbmhojjjjpdaaFmalthouselaw10ChartColds
import Derived.Test.YtnlbmhojjjjpdaaChartA
namespace Go.Proofs.Ytnlbmhojjjjpdaa.Pure
open Go.RowKit Go.Proofs.Ytnlbmhojjjjpdaa.F Go.Proofs.YtnlbmhojjjjpdaaW.PrintWords Go.Proofs.YtnlbmhojjjjpdaaW.PrintLast

theorem ChartColds : malthouselaw10_ChartColds.Pure := by
  intro s _
  refine ⟨60, ?_⟩
  rcases state_cases s with hs | rfl | rfl | rfl | rfl | rfl | rfl | rfl | rfl | rfl | rfl | rfl | rfl
  · unfold malthouselaw10_ChartColds.f
    have hc : coldP s = s := by unfold coldP; rw [if_neg (by omega), if_neg (by omega), if_neg (by omega)]
    rw [awake_ge (by omega), Cold_f, hc]
    simp only [Option.bind_some]
    rcases hs with h | h
    · rw [if_pos h]; simp [malthouselaw10_ChartColds.j0]
    · rw [if_neg (by omega), show decide (s ≥ 12) = true from decide_eq_true h]; simp [malthouselaw10_ChartColds.j0]
  all_goals decide +kernel
end Go.Proofs.Ytnlbmhojjjjpdaa.Pure
