import Derived.Test.YtaageiiodlfeiaaVR1
set_option maxHeartbeats 4000000
set_option linter.unusedSimpArgs false
set_option linter.unusedVariables false
namespace Go.Proofs.Ytaageiiodlfeiaa
open Go Go.Lite Go.Proofs
structure Rule where
  name : List UInt8
  sex : Int
  place : Int
  from0 : List Step
  to : List Step
  deriving Inhabited
def cRule (fr : Bool) (x : Rule) : List LV:=cStr x.name ++ cInt .i64 x.sex ++ cInt .i64 x.place ++ cSl fr 2 (cStep fr) x.from0 ++ cSl fr 2 (cStep fr) x.to

end Go.Proofs.Ytaageiiodlfeiaa
