import Derived.Test.YtepefimocflfkaaM102
set_option maxHeartbeats 4000000
set_option linter.unusedSimpArgs false
set_option linter.unusedVariables false
namespace Go.Proofs.Ytepefimocflfkaa
open Go Go.Lite Go.Proofs
def C76 (R : (List Int)) : LV × List (Nat × BC) := (.own 0, [(0, .arr 1 R.length (rowOf (cInt .i64) R))])
def specImp (x0 : Family) (x1 : Law) (x2 : Int) (x3 : Int) (x4 : Int) : (List Int) := bif (((!(specIsLaw x1)) || (!(l1Has x0 x2))) || (!(l1Has x0 x3))) then ([] : List Int) else (l3Listed (l9Bars x0 x1 x2 x3 x4))
def A76 (x0 : Family) (x1 : Law) (x2 : Int) (x3 : Int) (x4 : Int) : Ann := r0 1 [2, 3, 4, 5, 6, 10] [5, 6] (.reg 1 [] [(1, k75 x1), (6, cg (!(!(specIsLaw x1))) (k124 x0 x2)), (12, cg (!((!(specIsLaw x1)) || (!(l1Has x0 x2)))) (k124 x0 x3))] [2, 3, 4, 5, 6, 10, 25] [5, 6] [!(!(specIsLaw x1)), !(specIsLaw x1), !((!(specIsLaw x1)) || (!(l1Has x0 x2))), (!(specIsLaw x1)) || (!(l1Has x0 x2))] [] [] [0, 1, 1, 4, 1, 6, 9, 9, 8, 9, 14] (cn (((!(specIsLaw x1)) || (!(l1Has x0 x2))) || (!(l1Has x0 x3))) (r0 1 [2, 3, 4, 5, 6, 10] [5, 6] (rt [(0, none)] (C76 ([] : List Int)))) (.reg 1 [] [(5, k126 x0 x1 x2 x3 x4), (6, k125 (l9Bars x0 x1 x2 x3 x4))] [10] [1032] [] [] [] [0, 4] (rt [(0, some 1032)] (C76 (l3Listed (l9Bars x0 x1 x2 x3 x4)))))))
theorem ok_spec_Impediments (x0 : Family) (x1 : Law) (x2 : Int) (x3 : Int) (x4 : Int) (hx : x0.people.length ≤ 1048576) (hu : x0.unions.length ≤ 1048576) (hn : ∀ p ∈ x0.people, p.name.length ≤ 1048576) : FnT Try.prog 76 [.agg (cFamily false x0), .agg (cLaw false x1), .int .i64 x2, .int .i64 x3, .int .i64 x4] (C76 (specImp x0 x1 x2 x3 x4)) := by
  have aux : ∀ R, specImp x0 x1 x2 x3 x4 = R → slim (C76 R) (A76 x0 x1 x2 x3 x4) [] := by
    intro R hR
    refine rg trivial ?_
    refine rg ⟨trivial, fun hg0 => ⟨by trivial, by trivial, by trivial⟩, fun hg0 => ⟨by trivial, by trivial, by trivial⟩, trivial⟩ ?_
    revert hR; refine cd (fun hc1 hR => ?_) fun hc1 hR => ?_
    ·
      refine rg trivial ?_
      exact congrArg C76 hR
    ·
      refine rg ⟨⟨by trivial, by trivial, by trivial, by (have h9 := imp_pre hc1; first | exact h9.1 | exact h9.2.1 | exact h9.2.2.1 | exact h9.2.2.2 | omega), by (have h9 := imp_pre hc1; first | exact h9.1 | exact h9.2.1 | exact h9.2.2.1 | exact h9.2.2.2 | omega), by (have h9 := imp_pre hc1; first | exact h9.1 | exact h9.2.1 | exact h9.2.2.1 | exact h9.2.2.2 | omega), by (have h9 := imp_pre hc1; first | exact h9.1 | exact h9.2.1 | exact h9.2.2.1 | exact h9.2.2.2 | omega)⟩, by (have h9 := l9Bars_len x0 x1 x2 x3 x4; omega), trivial⟩ ?_
      exact congrArg C76 hR
  exact Fn.go 33 Try.func76 (by kernel_rfl) (by kernel_rfl) (by simp [C76, Frs, FrsL, FrsB, rowOf, cInt, cBool, cStr, cSl, FrsL_app, cPerson, cUnion, cFamily, cLaw]) (A76 x0 x1 x2 x3 x4) (by kernel_rfl) (aux _ rfl)
def k76 (x0 : Family) (x1 : Law) (x2 : Int) (x3 : Int) (x4 : Int) : Cl := (hres (C76 (specImp x0 x1 x2 x3 x4)), k3 (ok_spec_Impediments x0 x1 x2 x3 x4))
end Go.Proofs.Ytepefimocflfkaa
