import Derived.Test.YtikfeeaapenplaaProg
import Derived.Test.YtikfeeaapenplaaLiteS
import Derived.KernelRfl
set_option maxHeartbeats 4000000
set_option linter.unusedSimpArgs false
set_option linter.unusedVariables false
namespace Go.Proofs.Ytikfeeaapenplaa
open Go Go.Lite Go.Proofs

end Go.Proofs.Ytikfeeaapenplaa
