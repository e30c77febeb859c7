/- How plain data lies in cells: the functions that the contracts are told with. Conditions: none; over any program. -/
import Derived.Test.YtnibbmmljamolaaGreatLiteH
set_option linter.unusedVariables false
namespace Go.Lite
open Go Go.RowKit

def cInt(k:IntKind)(x:Int):List LV:=[.int k x]
def cBool(x:Bool):List LV:=[.bool x]
def cStr(x:List UInt8):List LV:=[.str x]
def rowOf{α:Type}[Inhabited α](f:α→List LV)(l:List α):Nat→List LV:=fun i=>f (l.getD i default)
def cSl{α:Type}[Inhabited α](fr:Bool)(sz:Nat)(f:α→List LV)(x:List α):List LV:=[.ro fr sz x.length (rowOf f x)]
end Go.Lite
