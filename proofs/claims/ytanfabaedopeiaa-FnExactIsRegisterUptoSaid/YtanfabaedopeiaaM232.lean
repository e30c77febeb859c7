import Derived.Test.YtanfabaedopeiaaVR5
set_option maxHeartbeats 4000000
set_option linter.unusedSimpArgs false
set_option linter.unusedVariables false
namespace Go.Proofs.Ytanfabaedopeiaa
open Go Go.Lite Go.Proofs
theorem rewrite_eq (x : List Rule) (t : KinType) : implRewrite x t = l4Step x t := by
  unfold implRewrite l4Step
  have e : (fun i1 (v1 : Unit) (nx1 : Unit → KinType × Int × Int × Bool) => loopN (fun i2 (v2 : Unit) next => bif (fitsAt (x.getD i2 default) t ((i1 : Nat) : Int)) then ((replacedAt (x.getD i2 default) t ((i1 : Nat) : Int)), ((i2 : Nat) : Int), ((i1 : Nat) : Int), true) else (next ())) (fun (v2 : Unit) => nx1 ()) x.length 0 ()) =
      fun i1 (v1 : Unit) nx1 => loopN (fun i2 (v2 : Unit) next => bif (l4Fits (x.getD i2 default) t ((i1 : Nat) : Int)) then ((l4Replace (x.getD i2 default) t ((i1 : Nat) : Int)), ((i2 : Nat) : Int), ((i1 : Nat) : Int), true) else (next ())) (fun (v2 : Unit) => nx1 ()) x.length 0 () := by
    funext i v nx
    congr 1
    funext j w next
    rw [fits_eq, replace_eq]
  rw [e]
theorem l4Step_rank {x : List Rule} (ha : ∀ r ∈ x, RuleOk r) {t : KinType} (h : (l4Step x t).2.2.2 = true) : rank (l4Step x t).1.steps < rank t.steps ∧ (l4Step x t).1.steps.length ≤ t.steps.length := by
  revert h
  unfold l4Step
  refine loopN_to (fun _ _ => True) (fun (r : KinType × Int × Int × Bool) => r.2.2.2 = true → rank r.1.steps < rank t.steps ∧ r.1.steps.length ≤ t.steps.length) trivial (fun i v next hi _ hn => ?_) (fun v _ h => (by cases h))
  refine loopN_to (fun _ _ => True) (fun (r : KinType × Int × Int × Bool) => r.2.2.2 = true → rank r.1.steps < rank t.steps ∧ r.1.steps.length ≤ t.steps.length) trivial (fun j w next2 hj _ hn2 => ?_) (fun w _ => hn _ trivial)
  refine cond_both (p := fun (r : KinType × Int × Int × Bool) => r.2.2.2 = true → rank r.1.steps < rank t.steps ∧ r.1.steps.length ≤ t.steps.length) (fun c _ => ?_) (fun _ => hn2 _ trivial)
  exact fits_rank (ha _ (getD_mem hj)) c
end Go.Proofs.Ytanfabaedopeiaa
