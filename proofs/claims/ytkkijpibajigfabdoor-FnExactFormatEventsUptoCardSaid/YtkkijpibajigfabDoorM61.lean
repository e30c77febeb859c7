import Derived.Test.YtkkijpibajigfabDoorM60
set_option maxHeartbeats 4000000
set_option linter.unusedSimpArgs false
set_option linter.unusedVariables false
namespace Go.Proofs.YtkkijpibajigfabDoor
open Go Go.Lite Go.Proofs
theorem snoc_lt' {α : Type} {l : List α} {z d : α} {k : Nat} (h : k < l.length) : (l ++ [z]).getD k d = l.getD k d := by
  rw [getD_snoc, if_pos h]
theorem snoc_last {α : Type} {l : List α} {z d : α} {k : Nat} (h : k = l.length) : (l ++ [z]).getD k d = z := by
  rw [getD_snoc, if_neg (by omega), if_pos h]
end Go.Proofs.YtkkijpibajigfabDoor
