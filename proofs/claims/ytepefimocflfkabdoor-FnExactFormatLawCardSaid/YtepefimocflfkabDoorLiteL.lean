/- How plain data lies in cells: the functions that the contracts are told with. Conditions: none; over any program. -/
import Derived.Test.YtepefimocflfkabDoorLiteH
set_option linter.unusedVariables false
namespace Go.Lite
open Go Go.RowKit

def cInt (k : IntKind) (x : Int) : List LV := [.int k x]
def cBool (x : Bool) : List LV := [.bool x]
/-- The rows of a list. -/
def rowOf {α : Type} [Inhabited α] (f : α → List LV) (l : List α) : Nat → List LV := fun i => f (l.getD i default)
end Go.Lite
