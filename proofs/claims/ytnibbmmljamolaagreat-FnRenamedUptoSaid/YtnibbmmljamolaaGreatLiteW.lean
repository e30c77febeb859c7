/- Slices of slices that are exchanged, and the functions of package reflectlite that the model stands in for, at them. Conditions: none; over any program. -/
import Derived.Test.YtnibbmmljamolaaGreatLiteS
set_option linter.unusedVariables false
set_option linter.unusedSimpArgs false
namespace Go.Lite
open Go Go.RowKit

section
variable {P:Program} {w:World} {B:Nat} {X:Nat→Prop} {E:Env}
end
section
variable {P:Program} {α:Type} [Inhabited α]
end
section
open Go.Extern Go.Extern.Rtype
variable {P:Program} {t e:TypeId} {ti:TypeInfo}
end
end Go.Lite
