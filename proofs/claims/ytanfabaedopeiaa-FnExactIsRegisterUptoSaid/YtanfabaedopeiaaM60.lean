import Derived.Test.YtanfabaedopeiaaM7
set_option maxHeartbeats 4000000
set_option linter.unusedSimpArgs false
set_option linter.unusedVariables false
namespace Go.Proofs.Ytanfabaedopeiaa
open Go Go.Lite Go.Proofs
end Go.Proofs.Ytanfabaedopeiaa
