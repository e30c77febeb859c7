/- Rows that list package variables: what is listed gives the variable's cells; the last step of a statement whose row reads variables. Conditions: none; over any program. -/
import Derived.Test.YtlinnkjieghmhaaGreatDoorLiteR
import Derived.OpenVars
import Derived.Deep.DeepHandedRow
import Derived.Lib.LaidTab
set_option linter.unusedVariables false
namespace Go.Lite
open Go Go.RowKit Go.ChangeShapes Go.WideShapes Go.Deep Go.WideElems

section
variable {P:Program} {H:Type} {enc:TypeId×Value→H}
end
end Go.Lite
