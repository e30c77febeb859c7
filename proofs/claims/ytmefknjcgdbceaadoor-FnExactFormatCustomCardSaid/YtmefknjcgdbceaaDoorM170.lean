import Derived.Test.YtmefknjcgdbceaaDoorVD1
set_option maxHeartbeats 4000000
set_option linter.unusedSimpArgs false
set_option linter.unusedVariables false
namespace Go.Proofs.YtmefknjcgdbceaaDoor
open Go Go.Lite Go.Proofs
theorem format_eq (x : Custom) : implFormat x = specFormat x := rfl
end Go.Proofs.YtmefknjcgdbceaaDoor
