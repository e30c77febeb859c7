import Derived.Test.YtaageiiodlfeiaaV7
set_option maxHeartbeats 4000000
set_option linter.unusedSimpArgs false
set_option linter.unusedVariables false
namespace Go.Proofs.Ytaageiiodlfeiaa
open Go Go.Lite Go.Proofs
theorem mem_getD {α : Type} {l : List α} {q d : α} (h : q ∈ l) : ∃ k, k < l.length ∧ l.getD k d = q := by
  obtain ⟨k, hk, e⟩ := List.getElem_of_mem h
  exact ⟨k, hk, by rw [List.getD_eq_getElem?_getD, List.getElem?_eq_getElem hk, Option.getD_some, e]⟩
theorem getD_mem {α : Type} {l : List α} {k : Nat} {d : α} (hk : k < l.length) : l.getD k d ∈ l := by
  rw [List.getD_eq_getElem?_getD, List.getElem?_eq_getElem hk]; exact List.getElem_mem hk
end Go.Proofs.Ytaageiiodlfeiaa
