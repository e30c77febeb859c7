import Derived.Test.YtikfeeaapenplabProg
import Derived.Test.YtikfeeaapenplabLiteS
import Derived.KernelRfl
set_option maxHeartbeats 4000000
set_option linter.unusedSimpArgs false
set_option linter.unusedVariables false
namespace Go.Proofs.Ytikfeeaapenplab
open Go Go.Lite Go.Proofs

end Go.Proofs.Ytikfeeaapenplab
