import Derived.Test.YtaageiiodlfeiaaProg
import Derived.Test.YtaageiiodlfeiaaLiteW
import Derived.KernelRfl
set_option maxHeartbeats 4000000
set_option linter.unusedSimpArgs false
set_option linter.unusedVariables false
namespace Go.Proofs.Ytaageiiodlfeiaa
open Go Go.Lite Go.Proofs
structure Person where
  name : List UInt8
  sex : Int
  father : Int
  mother : Int
  born : Int
  died : Int
  deriving Inhabited
def cPerson (fr : Bool) (x : Person) : List LV:=cStr x.name ++ cInt .i64 x.sex ++ cInt .i64 x.father ++ cInt .i64 x.mother ++ cInt .i64 x.born ++ cInt .i64 x.died

structure Union where
  man : Int
  woman : Int
  from0 : Int
  to : Int
  deriving Inhabited
def cUnion (fr : Bool) (x : Union) : List LV:=cInt .i64 x.man ++ cInt .i64 x.woman ++ cInt .i64 x.from0 ++ cInt .i64 x.to

structure Family where
  people : List Person
  unions : List Union
  deriving Inhabited
def cFamily (fr : Bool) (x : Family) : List LV:=cSl fr 6 (cPerson fr) x.people ++ cSl fr 4 (cUnion fr) x.unions

end Go.Proofs.Ytaageiiodlfeiaa
