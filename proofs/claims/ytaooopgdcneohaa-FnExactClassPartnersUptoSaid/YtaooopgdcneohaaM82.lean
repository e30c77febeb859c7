import Derived.Test.YtaooopgdcneohaaV83
set_option maxHeartbeats 4000000
set_option linter.unusedSimpArgs false
set_option linter.unusedVariables false
namespace Go.Proofs.Ytaooopgdcneohaa
open Go Go.Lite Go.Proofs
theorem szIntS_rng (x : List Int) (w : Int) : szIntS x w ≤ max w (-1) ∧ -1 ≤ szIntS x w := by
  unfold szIntS
  cases h : decide (w - (x.length : Int) < 0)
  · have := of_decide_eq_false h; simp only [cond_false]; omega
  · simp only [cond_true]; omega
end Go.Proofs.Ytaooopgdcneohaa
