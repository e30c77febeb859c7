import Derived.Test.YtepefimocflfkabDoorProg
import Derived.Test.YtepefimocflfkabDoorLiteS
import Derived.KernelRfl
set_option maxHeartbeats 4000000
set_option linter.unusedSimpArgs false
set_option linter.unusedVariables false
namespace Go.Proofs.YtepefimocflfkabDoor
open Go Go.Lite Go.Proofs
theorem getD_mem {α : Type} {l : List α} {k : Nat} {d : α} (hk : k < l.length) : l.getD k d ∈ l := by
  rw [List.getD_eq_getElem?_getD, List.getElem?_eq_getElem hk, Option.getD_some]; exact List.getElem_mem hk
theorem bytes_ok {x : List Int} (h : x.length ≤ 1048576 ∧ ∀ y ∈ x, inR .u8 y) : x.length ≤ 1048576 ∧ ∀ y ∈ x, 0 ≤ y ∧ y ≤ 255 := ⟨h.1, fun y hy => by have := h.2 y hy; simp only [inR] at this; omega⟩
end Go.Proofs.YtepefimocflfkabDoor
