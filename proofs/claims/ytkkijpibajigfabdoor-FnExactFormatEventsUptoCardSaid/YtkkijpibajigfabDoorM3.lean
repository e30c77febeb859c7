import Derived.Test.YtkkijpibajigfabDoorV3
set_option maxHeartbeats 4000000
set_option linter.unusedSimpArgs false
set_option linter.unusedVariables false
namespace Go.Proofs.YtkkijpibajigfabDoor
open Go Go.Lite Go.Proofs
theorem specIsFamily_iff (x : Family) : specIsFamily x = true ↔ (x.people.length ≤ 40 ∧ x.unions.length ≤ 60) ∧ (∀ k : Nat, k < x.people.length → l1Person x k = true) ∧ (∀ k : Nat, k < x.people.length → (l1Depths x).getD k default ≤ 10) ∧ ∀ k : Nat, k < x.unions.length → l1Union x k = true := by
  simp only [specIsFamily, cond_f_iff, or_f_iff, loopN_all, not_f_iff, decide_eq_false_iff_not, Int.not_lt, l1Depths_len, and_true]
  constructor
  · rintro ⟨⟨h1, h2⟩, h3, h4, h5⟩; exact ⟨⟨by omega, by omega⟩, h3, h4, h5⟩
  · rintro ⟨⟨h1, h2⟩, h3, h4, h5⟩; exact ⟨⟨by omega, by omega⟩, h3, h4, h5⟩
end Go.Proofs.YtkkijpibajigfabDoor
