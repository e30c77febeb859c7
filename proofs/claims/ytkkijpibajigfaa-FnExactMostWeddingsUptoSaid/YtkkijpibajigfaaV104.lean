import Derived.Test.YtkkijpibajigfaaM103
set_option maxHeartbeats 4000000
set_option linter.unusedSimpArgs false
set_option linter.unusedVariables false
namespace Go.Proofs.Ytkkijpibajigfaa
open Go Go.Lite Go.Proofs
def C45 (R : Bool) : LV × List (Nat × BC) := (.bool R, [])
def specMay (x0 : Family) (x1 : Law) (x2 : Int) (x3 : Int) (x4 : Int) : Bool := (((specIsLaw x1) && (l1Has x0 x2)) && (l1Has x0 x3)) && (decide ((((specImp x0 x1 x2 x3 x4).length : Nat) : Int) = 0))
def A45 (x0 : Family) (x1 : Law) (x2 : Int) (x3 : Int) (x4 : Int) : Ann := .reg 2 [] [(1001, k42 x1), (1005, cg (specIsLaw x1) (k60 x0 x2)), (1010, cg ((specIsLaw x1) && (l1Has x0 x2)) (k60 x0 x3)), (1018, cg (((specIsLaw x1) && (l1Has x0 x2)) && (l1Has x0 x3)) (k86 x0 x1 x2 x3 x4))] [10] [] [specIsLaw x1, (specIsLaw x1) && (l1Has x0 x2), ((specIsLaw x1) && (l1Has x0 x2)) && (l1Has x0 x3)] [] [] [0, 1, 1, 4, 1, 5, 5, 8, 5, 9, 9, 9, 9, 9, 12, 9, 9, 9] (rt [] (C45 ((((specIsLaw x1) && (l1Has x0 x2)) && (l1Has x0 x3)) && (decide ((((specImp x0 x1 x2 x3 x4).length : Nat) : Int) = 0)))))
theorem ok_spec_MayMarry (x0 : Family) (x1 : Law) (x2 : Int) (x3 : Int) (x4 : Int) (hx : x0.people.length ≤ 1048576) (hu : x0.unions.length ≤ 1048576) (hn : ∀ p ∈ x0.people, p.name.length ≤ 1048576) : FnT Try.prog 45 [.agg (cFamily false x0), .agg (cLaw false x1), .int .i64 x2, .int .i64 x3, .int .i64 x4] (C45 (specMay x0 x1 x2 x3 x4)) := by
  have aux : ∀ R, specMay x0 x1 x2 x3 x4 = R → slim (C45 R) (A45 x0 x1 x2 x3 x4) [] := by
    intro R hR
    refine rg ⟨trivial, fun hg0 => ⟨by trivial, by trivial, by trivial⟩, fun hg0 => ⟨by trivial, by trivial, by trivial⟩, fun hg0 => ⟨by trivial, by trivial, by trivial⟩, trivial⟩ ?_
    exact congrArg C45 hR
  exact Fn.go 33 Try.func45 (by kernel_rfl) (by kernel_rfl) (by simp [C45, Frs, FrsL]) (A45 x0 x1 x2 x3 x4) (by kernel_rfl) (aux _ rfl)
def k45 (x0 : Family) (x1 : Law) (x2 : Int) (x3 : Int) (x4 : Int) : Cl := (hres (C45 (specMay x0 x1 x2 x3 x4)), k3 (ok_spec_MayMarry x0 x1 x2 x3 x4))
end Go.Proofs.Ytkkijpibajigfaa
