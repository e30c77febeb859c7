import Derived.Test.YtaooopgdcneohabM21
set_option maxHeartbeats 4000000
set_option linter.unusedSimpArgs false
set_option linter.unusedVariables false
namespace Go.Proofs.Ytaooopgdcneohab
open Go Go.Lite Go.Proofs
def C21 (R : Int) : LV × List (Nat × BC) := (.int .i64 R, [])
def heldFamily (x0 : Family) (x1 : Int) : Int := bif (decide ((heldPersonS x0.people x1) < 0)) then (-1) else (bif (decide ((heldUnionS x0.unions (heldPersonS x0.people x1)) < 0)) then (-1) else (heldUnionS x0.unions (heldPersonS x0.people x1)))
def A21 (x0 : Family) (x1 : Int) : Ann := .reg 2 [] [(1003, k55 x0.people x1)] [1, 2, 4] [2] [] [] [] [0] (r0 1 [1, 2, 4, 10] [2] (cn (decide ((heldPersonS x0.people x1) < 0)) (r0 1 [1, 2, 4] [2] (rt [] (C21 (-1)))) (.reg 1 [] [(3, k56 x0.unions (heldPersonS x0.people x1))] [1, 4] [] [] [] [] [0] (r0 1 [1, 4, 16] [] (cn (decide ((heldUnionS x0.unions (heldPersonS x0.people x1)) < 0)) (r0 1 [1, 4] [] (rt [] (C21 (-1)))) (r0 1 [4] [] (rt [] (C21 (heldUnionS x0.unions (heldPersonS x0.people x1))))))))))
theorem heldFamily_rng (x : Family) (k : Int) (hk : 0 ≤ k) : heldFamily x k ≤ k + 6 * x.people.length + 4 * x.unions.length := by
  unfold heldFamily
  have h1 := heldPersonS_rng x.people k hk
  refine cond_both (p := fun (r : Int) => r ≤ k + 6 * x.people.length + 4 * x.unions.length) (fun _ => by omega) (fun c => ?_)
  have c := of_decide_eq_false c
  have h2 := heldUnionS_rng x.unions _ (show 0 ≤ heldPersonS x.people k by omega)
  exact cond_both (p := fun (r : Int) => r ≤ k + 6 * x.people.length + 4 * x.unions.length) (fun _ => by omega) (fun _ => by omega)
theorem ok_laws_heldFamily (x0 : Family) (x1 : Int) (hx : x0.people.length ≤ 1048576) (hu : x0.unions.length ≤ 1048576) (hk : 0 ≤ x1 ∧ x1 ≤ 10000000) : FnT Try.prog 21 [.agg (cFamily false x0), .int .i64 x1] (C21 (heldFamily x0 x1)) := by
  have aux : ∀ R, heldFamily x0 x1 = R → slim (C21 R) (A21 x0 x1) [] := by
    intro R hR
    refine rg ⟨⟨by trivial, by (intros; omega)⟩, trivial⟩ ?_
    refine rg trivial ?_
    revert hR; refine cd (fun hc1 hR => ?_) fun hc1 hR => ?_
    ·
      refine rg trivial ?_
      exact congrArg C21 hR
    ·
      refine rg ⟨⟨by trivial, by (have h9 := heldPersonS_rng x0.people x1 (by omega); have h8 := of_decide_eq_false hc1; omega)⟩, trivial⟩ ?_
      refine rg trivial ?_
      revert hR; refine cd (fun hc2 hR => ?_) fun hc2 hR => ?_
      ·
        refine rg trivial ?_
        exact congrArg C21 hR
      ·
        refine rg trivial ?_
        exact congrArg C21 hR
  exact Fn.go 18 Try.func21 (by kernel_rfl) (by kernel_rfl) (by simp [C21, Frs, FrsL]) (A21 x0 x1) (by kernel_rfl) (aux _ rfl)
def k21 (x0 : Family) (x1 : Int) : Cl := (hres (C21 (heldFamily x0 x1)), k3 (ok_laws_heldFamily x0 x1))
end Go.Proofs.Ytaooopgdcneohab
