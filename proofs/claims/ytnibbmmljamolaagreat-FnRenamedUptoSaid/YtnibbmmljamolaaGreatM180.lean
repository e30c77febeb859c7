import Derived.Test.YtnibbmmljamolaaGreatM182
set_option maxHeartbeats 4000000
set_option linter.unusedSimpArgs false
set_option linter.unusedVariables false
namespace Go.Proofs.YtnibbmmljamolaaGreat
open Go Go.Lite Go.Proofs
end Go.Proofs.YtnibbmmljamolaaGreat
