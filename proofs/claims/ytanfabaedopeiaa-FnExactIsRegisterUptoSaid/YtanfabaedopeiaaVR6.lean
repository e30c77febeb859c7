import Derived.Test.YtanfabaedopeiaaM232
set_option maxHeartbeats 4000000
set_option linter.unusedSimpArgs false
set_option linter.unusedVariables false
namespace Go.Proofs.Ytanfabaedopeiaa
open Go Go.Lite Go.Proofs
def C104 (R : KinType) : LV × List (Nat × BC) := (.agg [.int .i64 R.ego, .own 0], [(0, .arr 2 R.steps.length (rowOf (cStep true) R.steps))])
def implNormal (x0 : List Rule) (x1 : KinType) : KinType := loopW (fun (v1 : Int × (List Step)) next => bif (!((implRewrite x0 (KinType.mk v1.1 v1.2)).2.2.2)) then (KinType.mk v1.1 v1.2) else (next (((implRewrite x0 (KinType.mk v1.1 v1.2)).1).ego, ((implRewrite x0 (KinType.mk v1.1 v1.2)).1).steps))) (rank (copyType x1).steps + 1) ((copyType x1).ego, (copyType x1).steps)
def D104b1 (x0 : List Rule) (x1 : KinType) (v1 : Int × (List Step)) : Dl := ⟨[], [(30501, .arr 2 v1.2.length (rowOf (cStep true) v1.2)), (5, .var [.int .i64 v1.1, .own 30501])]⟩
def A104b1 (x0 : List Rule) (x1 : KinType) (v1 : Int × (List Step)) : Ann := .reg 1 [] [(2, k167 x0 (KinType.mk v1.1 v1.2))] [0, 4, 5, 6, 9] [4, 5, 6, 1015, 30501] [] [] [] [0] (r0 1 [0, 4, 5, 6, 21] [4, 5, 6, 1015, 30501] (cn (!((implRewrite x0 (KinType.mk v1.1 v1.2)).2.2.2)) (r0 1 [0, 4, 5, 6] [4, 5, 6, 1015, 30501] (rt [(0, some 30501)] (C104 (KinType.mk v1.1 v1.2)))) (r0 1 [0, 4, 5] [4, 5, 1015] (.next 0 [(30501, some 1015)] (D104b1 x0 x1 (((implRewrite x0 (KinType.mk v1.1 v1.2)).1).ego, ((implRewrite x0 (KinType.mk v1.1 v1.2)).1).steps))))))
def A104 (x0 : List Rule) (x1 : KinType) : Ann := .reg 2 [] [(1001, k132 x1)] [0, 4, 5] [4, 5, 1011] [] [] [] [0] (.loop (Int × (List Step)) (D104b1 x0 x1) [] [1011] [(30501, some 1011)] (D104b1 x0 x1 ((copyType x1).ego, (copyType x1).steps)) (A104b1 x0 x1))
theorem ok_impl_normalForm (x0 : List Rule) (x1 : KinType) (hx : x0.length ≤ 1048576) (hr : ∀ r ∈ x0, r.name.length ≤ 1048576 ∧ r.from0.length ≤ 1048576 ∧ r.to.length ≤ 1048576) (ht : x1.steps.length ≤ 1048576) (ha : ∀ r ∈ x0, RuleOk r) : FnT Try.prog 104 [.ro false 5 x0.length (rowOf (cRule false) x0), .agg (cKinType false x1)] (C104 (implNormal x0 x1)) := by
  have aux : ∀ R, implNormal x0 x1 = R → slim (C104 R) (A104 x0 x1) [] := by
    intro R hR
    refine rg ⟨by trivial, trivial⟩ ?_
    revert hR; refine lW (fun v => v.2.length ≤ 1048576) (fun v => rank v.2) (by trivial) (Nat.lt_succ_self _) rfl fun m1 v1 F1 hI1 hM1 hR hK1 => ?_
    refine rg ⟨⟨by trivial, by trivial, by trivial⟩, trivial⟩ ?_
    refine rg trivial ?_
    revert hR; refine cd (fun hc1 hR => ?_) fun hc1 hR => ?_
    ·
      refine rg trivial ?_
      exact congrArg C104 hR
    ·
      refine rg trivial ?_
      exact hK1 (((implRewrite x0 (KinType.mk v1.1 v1.2)).1).ego, ((implRewrite x0 (KinType.mk v1.1 v1.2)).1).steps) (by (have h9 := l4Step_rank ha (t := KinType.mk v1.1 v1.2) (by first | (rw [← rewrite_eq]; simpa using hc1) | simpa using hc1); (try rw [rewrite_eq]); have h8 := hI1; dsimp only at h9 ⊢; omega)) (by (have h9 := l4Step_rank ha (t := KinType.mk v1.1 v1.2) (by first | (rw [← rewrite_eq]; simpa using hc1) | simpa using hc1); (try rw [rewrite_eq]); have h8 := hI1; dsimp only at h9 ⊢; omega)) hR
  exact Fn.go 24 Try.func104 (by kernel_rfl) (by kernel_rfl) (by simp [C104, Frs, FrsL, FrsB, rowOf, cInt, cBool, cStr, cSl, FrsL_app, cPerson, cUnion, cFamily, cStep, cKinType, cRule]) (A104 x0 x1) (by kernel_rfl) (aux _ rfl)
def k104 (x0 : List Rule) (x1 : KinType) : Cl := (hres (C104 (implNormal x0 x1)), k4 (ok_impl_normalForm x0 x1))
def C92 (R : KinType) : LV × List (Nat × BC) := (.agg [.int .i64 R.ego, .own 0], [(0, .arr 2 R.steps.length (rowOf (cStep true) R.steps))])
def l4Normal (x0 : List Rule) (x1 : KinType) : KinType := loopW (fun (v1 : Int × (List Step)) next => bif (!((l4Step x0 (KinType.mk v1.1 v1.2)).2.2.2)) then (KinType.mk v1.1 v1.2) else (next (((l4Step x0 (KinType.mk v1.1 v1.2)).1).ego, ((l4Step x0 (KinType.mk v1.1 v1.2)).1).steps))) (rank (l4Copy x1).steps + 1) ((l4Copy x1).ego, (l4Copy x1).steps)
def D92b1 (x0 : List Rule) (x1 : KinType) (v1 : Int × (List Step)) : Dl := ⟨[], [(30501, .arr 2 v1.2.length (rowOf (cStep true) v1.2)), (5, .var [.int .i64 v1.1, .own 30501])]⟩
def A92b1 (x0 : List Rule) (x1 : KinType) (v1 : Int × (List Step)) : Ann := .reg 1 [] [(2, k160 x0 (KinType.mk v1.1 v1.2))] [0, 4, 5, 6, 9] [4, 5, 6, 1015, 30501] [] [] [] [0] (r0 1 [0, 4, 5, 6, 21] [4, 5, 6, 1015, 30501] (cn (!((l4Step x0 (KinType.mk v1.1 v1.2)).2.2.2)) (r0 1 [0, 4, 5, 6] [4, 5, 6, 1015, 30501] (rt [(0, some 30501)] (C92 (KinType.mk v1.1 v1.2)))) (r0 1 [0, 4, 5] [4, 5, 1015] (.next 0 [(30501, some 1015)] (D92b1 x0 x1 (((l4Step x0 (KinType.mk v1.1 v1.2)).1).ego, ((l4Step x0 (KinType.mk v1.1 v1.2)).1).steps))))))
def A92 (x0 : List Rule) (x1 : KinType) : Ann := .reg 2 [] [(1001, k159 x1)] [0, 4, 5] [4, 5, 1011] [] [] [] [0] (.loop (Int × (List Step)) (D92b1 x0 x1) [] [1011] [(30501, some 1011)] (D92b1 x0 x1 ((l4Copy x1).ego, (l4Copy x1).steps)) (A92b1 x0 x1))
theorem ok_spec_l4Normal (x0 : List Rule) (x1 : KinType) (hx : x0.length ≤ 1048576) (hr : ∀ r ∈ x0, r.name.length ≤ 1048576 ∧ r.from0.length ≤ 1048576 ∧ r.to.length ≤ 1048576) (ht : x1.steps.length ≤ 1048576) (ha : ∀ r ∈ x0, RuleOk r) : FnT Try.prog 92 [.ro false 5 x0.length (rowOf (cRule false) x0), .agg (cKinType false x1)] (C92 (l4Normal x0 x1)) := by
  have aux : ∀ R, l4Normal x0 x1 = R → slim (C92 R) (A92 x0 x1) [] := by
    intro R hR
    refine rg ⟨by trivial, trivial⟩ ?_
    revert hR; refine lW (fun v => v.2.length ≤ 1048576) (fun v => rank v.2) (by trivial) (Nat.lt_succ_self _) rfl fun m1 v1 F1 hI1 hM1 hR hK1 => ?_
    refine rg ⟨⟨by trivial, by trivial, by trivial⟩, trivial⟩ ?_
    refine rg trivial ?_
    revert hR; refine cd (fun hc1 hR => ?_) fun hc1 hR => ?_
    ·
      refine rg trivial ?_
      exact congrArg C92 hR
    ·
      refine rg trivial ?_
      exact hK1 (((l4Step x0 (KinType.mk v1.1 v1.2)).1).ego, ((l4Step x0 (KinType.mk v1.1 v1.2)).1).steps) (by (have h9 := l4Step_rank ha (t := KinType.mk v1.1 v1.2) (by first | (rw [← rewrite_eq]; simpa using hc1) | simpa using hc1); (try rw [rewrite_eq]); have h8 := hI1; dsimp only at h9 ⊢; omega)) (by (have h9 := l4Step_rank ha (t := KinType.mk v1.1 v1.2) (by first | (rw [← rewrite_eq]; simpa using hc1) | simpa using hc1); (try rw [rewrite_eq]); have h8 := hI1; dsimp only at h9 ⊢; omega)) hR
  exact Fn.go 24 Try.func92 (by kernel_rfl) (by kernel_rfl) (by simp [C92, Frs, FrsL, FrsB, rowOf, cInt, cBool, cStr, cSl, FrsL_app, cPerson, cUnion, cFamily, cStep, cKinType, cRule]) (A92 x0 x1) (by kernel_rfl) (aux _ rfl)
def k92 (x0 : List Rule) (x1 : KinType) : Cl := (hres (C92 (l4Normal x0 x1)), k4 (ok_spec_l4Normal x0 x1))
end Go.Proofs.Ytanfabaedopeiaa
