import Derived.Test.YtanfabaedopeiaaVR6
set_option maxHeartbeats 4000000
set_option linter.unusedSimpArgs false
set_option linter.unusedVariables false
namespace Go.Proofs.Ytanfabaedopeiaa
open Go Go.Lite Go.Proofs
theorem normal_eq (x : List Rule) (t : KinType) : implNormal x t = l4Normal x t := by
  unfold implNormal l4Normal
  have e : ∀ (v : Int × List Step), implRewrite x (KinType.mk v.1 v.2) = l4Step x (KinType.mk v.1 v.2) := fun v => rewrite_eq x _
  simp only [e]
  rfl
theorem l4Normal_len {x : List Rule} (ha : ∀ r ∈ x, RuleOk r) (t : KinType) : (l4Normal x t).steps.length ≤ t.steps.length := by
  unfold l4Normal
  refine loopW_to (fun (v : Int × List Step) => v.2.length ≤ t.steps.length) (fun v => rank v.2) (fun (r : KinType) => r.steps.length ≤ t.steps.length) (fun v next hv hn => ?_) _ _ (Nat.lt_succ_self _) (by simp [l4Copy])
  refine cond_both (p := fun (r : KinType) => r.steps.length ≤ t.steps.length) (fun _ => hv) (fun c => ?_)
  have h := l4Step_rank ha (t := KinType.mk v.1 v.2) (by simpa using c)
  exact hn _ (Nat.le_trans h.2 hv) h.1
end Go.Proofs.Ytanfabaedopeiaa
