import Derived.Test.YtkkijpibajigfabDoorProg
import Derived.Test.YtkkijpibajigfabDoorLiteU
import Derived.KernelRfl
set_option maxHeartbeats 4000000
set_option linter.unusedSimpArgs false
set_option linter.unusedVariables false
namespace Go.Proofs.YtkkijpibajigfabDoor
open Go Go.Lite Go.Proofs

end Go.Proofs.YtkkijpibajigfabDoor
