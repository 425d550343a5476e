/- Texts of one claim, slimmed and merged by slim.py. -/
import Derived.Test.YtiaccdaeomaogaaDoorRows
import Derived.ProofKit
import Derived.WalkKit
namespace Go.Proofs.YtiaccdaeomaogaaDoor.phaseStarts
set_option maxHeartbeats 8000000 in
set_option maxRecDepth 100000 in
theorem closed : joinedFacts Tryd.pinned.checked.prog 17 Tryd.f17 Rows.phaseStartsSpec Rows.phaseStartsRow = true := by
  unfold joinedFacts
  simp only [Bool.and_eq_true]
  repeat' apply And.intro
  all_goals as_aux_lemma => kernel_rfl
end Go.Proofs.YtiaccdaeomaogaaDoor.phaseStarts
