import Derived.Test.YtkkijpibajigfaaM8
set_option maxHeartbeats 4000000
set_option linter.unusedSimpArgs false
set_option linter.unusedVariables false
namespace Go.Proofs.Ytkkijpibajigfaa
open Go Go.Lite Go.Proofs
end Go.Proofs.Ytkkijpibajigfaa
