import Derived.Test.YtanfabaedopeiaaM60
set_option maxHeartbeats 4000000
set_option linter.unusedSimpArgs false
set_option linter.unusedVariables false
namespace Go.Proofs.Ytanfabaedopeiaa
open Go Go.Lite Go.Proofs
theorem szUnionS_rng (x : List Union) (w : Int) : szUnionS x w ≤ max w (-1) ∧ -1 ≤ szUnionS x w := by
  unfold szUnionS
  cases h : decide (w - (x.length : Int) < 0)
  · have := of_decide_eq_false h; simp only [cond_false]; omega
  · simp only [cond_true]; omega
theorem szFamily_rng (x : Family) (w : Int) : szFamily x w ≤ max w (-1) ∧ -1 ≤ szFamily x w := by
  unfold szFamily
  have h1 := szPersonS_rng x.people w
  have h2 := szUnionS_rng x.unions (szPersonS x.people w)
  cases decide (szPersonS x.people w < 0)
  · cases decide (szUnionS x.unions (szPersonS x.people w) < 0)
    · simp only [cond_false]; omega
    · simp only [cond_false, cond_true]; omega
  · simp only [cond_true]; omega
end Go.Proofs.Ytanfabaedopeiaa
