/- Any command leads from any state where the document says, and so does what comes by itself, and the loss of power; for every input. -/
import Derived.Test.YtnlbmhojjjjpdaaFmalthouselaw10ChartLeads
import Derived.Test.YtnlbmhojjjjpdaaChartA
namespace Go.Proofs.Ytnlbmhojjjjpdaa.Pure
open Go.RowKit Go.Proofs.Ytnlbmhojjjjpdaa.F Go.Proofs.YtnlbmhojjjjpdaaW.PrintWords Go.Proofs.YtnlbmhojjjjpdaaW.PrintLast

theorem ChartLeads : malthouselaw10_ChartLeads.Pure := by
  intro s c t _ _ _
  refine ⟨40, ?_⟩
  unfold malthouselaw10_ChartLeads.f
  rw [awake_ge (by omega), Next_ge (by omega), refNext_ge (by omega), Done_f, refDone_f]
  simp only [Option.bind_some]
  rw [if_pos trivial, if_neg (by simp), if_pos trivial, show ((doneP s).2 != (doneP s).2) = false from by simp]
  simp only [malthouselaw10_ChartLeads.j0]
  rw [if_neg (by decide), if_pos trivial, Acting_f, refActing_f]
  simp only [Option.bind_some]
  rw [if_pos (by simp), quiet_same, Cold_f, refCold_ge (by omega), Edge_ge (by omega), refEdge_ge (by omega)]
  unfold chart_Quiet.f
  split <;> (try split) <;> (try split) <;> simp
end Go.Proofs.Ytnlbmhojjjjpdaa.Pure
