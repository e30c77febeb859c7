import Derived.Test.YtaooopgdcneohabV111
set_option maxHeartbeats 4000000
set_option linter.unusedSimpArgs false
set_option linter.unusedVariables false
namespace Go.Proofs.Ytaooopgdcneohab
open Go Go.Lite Go.Proofs
theorem join_eq (x : Family) (l : Law) (p q y : Int) : implJoin x l p q y = specJoin x l p q y := by
  unfold implJoin specJoin copyFamily l1Copy
  rw [may_eq, isFamily_eq]
theorem specJoin_len (x : Family) (l : Law) (p q y : Int) : (specJoin x l p q y).1.people.length ≤ 40 ∧ (specJoin x l p q y).1.unions.length ≤ 60 := by
  unfold specJoin
  refine cond_both (p := fun (r : Family × Bool) => r.1.people.length ≤ 40 ∧ r.1.unions.length ≤ 60) (fun _ => by simp) (fun _ => ?_)
  refine cond_both (p := fun (r : Family × Bool) => r.1.people.length ≤ 40 ∧ r.1.unions.length ≤ 60) (fun _ => by simp) (fun c => ?_)
  exact fam_n (by simpa using c)
end Go.Proofs.Ytaooopgdcneohab
