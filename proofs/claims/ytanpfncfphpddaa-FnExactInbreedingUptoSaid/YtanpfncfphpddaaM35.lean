import Derived.Test.YtanpfncfphpddaaV35
set_option maxHeartbeats 4000000
set_option linter.unusedSimpArgs false
set_option linter.unusedVariables false
namespace Go.Proofs.Ytanpfncfphpddaa
open Go Go.Lite Go.Proofs
theorem inbreeding_eq (x : Family) (p : Int) : implInbreeding x p = specInbreeding x p := by
  unfold implInbreeding specInbreeding
  cases h : l1Has x p
  · have h2 : implHas x [p] = false := by
      rw [Bool.eq_false_iff]
      intro hh
      have h3 := (implHas1 x p).1 hh
      rw [(l1Has_iff x p).2 ⟨h3.2, h3.1⟩] at h
      cases h
    rw [h2]; rfl
  · have h2 := (l1Has_iff x p).1 h
    rw [(implHas1 x p).2 ⟨h2.2, h2.1⟩]
    have h3 := kinInbreeding_val x p h2.2 h2.1
    simp only [Bool.not_true, cond_false]
    rw [wholeDyad_eq h3.1.1, h3.2]
end Go.Proofs.Ytanpfncfphpddaa
