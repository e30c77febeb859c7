/- Straight stretches of code at one step, and what is kept behind them. Conditions: none; over any program. -/
import Derived.Test.YtnibbmmljamolaaGreatLiteG
set_option linter.unusedVariables false
namespace Go.Lite
open Go Go.RowKit

def keepS(ts is : List Nat)(s : St) : St :=
  ⟨ts.filterMap fun t=>(look s.slots t).map fun c=>(t,c),is.filterMap fun t=>(look s.blks t).map fun c=>(t,c),s.used⟩

section
variable {P:Program} {c:Code} {n r:AP} {xs:List (Nat×AP)} {a:Act} {w:World} {N:Nat} {w0:World} {X0:Fr} {s:St}

theorem H.keep(hs:H N w0 X0 s a w)(ts is:List Nat):H N w0 X0 (keepS ts is s) a w:=by obtain⟨E,hs⟩:=hs;exact⟨E,hs.weaken _ (fun t lv h=>zd9 _ _ t lv h) (fun i c h=>zd9 _ _ i c h) fun i h=>h⟩

end
end Go.Lite
