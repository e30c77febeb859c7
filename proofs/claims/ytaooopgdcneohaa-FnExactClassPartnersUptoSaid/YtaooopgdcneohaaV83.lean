import Derived.Test.YtaooopgdcneohaaM81
set_option maxHeartbeats 4000000
set_option linter.unusedSimpArgs false
set_option linter.unusedVariables false
namespace Go.Proofs.Ytaooopgdcneohaa
open Go Go.Lite Go.Proofs
def C51 (R : Int) : LV × List (Nat × BC) := (.int .i64 R, [])
def szIntS (x0 : List Int) (x1 : Int) : Int := bif (decide ((x1 - ((x0.length : Nat) : Int)) < 0)) then (-1) else (x1 - ((x0.length : Nat) : Int))
def A51 (x0 : List Int) (x1 : Int) : Ann := r1 2 [1, 4] [] [pf (inR .i64 (x1 - ((x0.length : Nat) : Int)))] [0] (r0 1 [1, 4, 10] [] (cn (decide ((x1 - ((x0.length : Nat) : Int)) < 0)) (r0 1 [1, 4] [] (rt [] (C51 (-1)))) (r0 1 [4] [] (rt [] (C51 (x1 - ((x0.length : Nat) : Int)))))))
theorem ok_laws_szIntS (x0 : List Int) (x1 : Int) (hx : x0.length ≤ 1048576) (hw : -1 ≤ x1 ∧ x1 ≤ 1048576) : FnT Try.prog 51 [.ro false 1 x0.length (rowOf (cInt .i64) x0), .int .i64 x1] (C51 (szIntS x0 x1)) := by
  have aux : ∀ R, szIntS x0 x1 = R → slim (C51 R) (A51 x0 x1) [] := by
    intro R hR
    refine rg ⟨by ( intros; simp only [inR]; omega), trivial⟩ ?_
    refine rg trivial ?_
    revert hR; refine cd (fun hc1 hR => ?_) fun hc1 hR => ?_
    ·
      refine rg trivial ?_
      exact congrArg C51 hR
    ·
      refine rg trivial ?_
      exact congrArg C51 hR
  exact Fn.go 12 Try.func51 (by kernel_rfl) (by kernel_rfl) (by simp [C51, Frs, FrsL]) (A51 x0 x1) (by kernel_rfl) (aux _ rfl)
def k51 (x0 : List Int) (x1 : Int) : Cl := (hres (C51 (szIntS x0 x1)), k2 (ok_laws_szIntS x0 x1))
end Go.Proofs.Ytaooopgdcneohaa
