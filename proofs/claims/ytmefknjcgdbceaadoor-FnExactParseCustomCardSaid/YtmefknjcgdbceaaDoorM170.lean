import Derived.Test.YtmefknjcgdbceaaDoorVD1
set_option maxHeartbeats 4000000
set_option linter.unusedSimpArgs false
set_option linter.unusedVariables false
namespace Go.Proofs.YtmefknjcgdbceaaDoor
open Go Go.Lite Go.Proofs
theorem eqCustom_self (x : Custom) : eqCustom x x = true := by
  unfold eqCustom
  rw [decide_eq_true rfl]
  cases x.youngest <;> cases x.represent <;> rfl
end Go.Proofs.YtmefknjcgdbceaaDoor
