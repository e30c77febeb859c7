import Derived.Test.YtikfeeaapenplaaM8
set_option maxHeartbeats 4000000
set_option linter.unusedSimpArgs false
set_option linter.unusedVariables false
namespace Go.Proofs.Ytikfeeaapenplaa
open Go Go.Lite Go.Proofs
theorem has1_eq (x : Family) (p : Int) : implHas x [p] = l1Has x p := by
  rw [Bool.eq_iff_iff,implHas1,l1Has_iff];exact and_comm
def C117 (R : Family) : LV × List (Nat × BC):=(.agg [.own 0,.own 1],[(0,.arr 6 R.people.length (rowOf (cPerson true) R.people)),(1,.arr 4 R.unions.length (rowOf (cUnion true) R.unions))])
def l1Copy (x0 : Family) : Family:=x0
def A117 (x0 : Family) : Ann:=.reg 5 [] [(2004,apN 9 (cPerson true) 56 x0.people),(3004,apN 15 (cUnion true) 32 x0.unions)] [2] [2,9,15] [] [] [] [0,4] (rt [(0,some 9),(1,some 15)] (C117 x0))
theorem ok_spec_l1Copy (x0 : Family) (hx : x0.people.length ≤ 1048576) (hu : x0.unions.length ≤ 1048576) : FnT Try.prog 117 [.agg (cFamily false x0)] (C117 (l1Copy x0)) := by
  have aux : ∀ R, l1Copy x0 = R → slim (C117 R) (A117 x0) [] := by
    intro R hR
    refine rg ⟨by omega,by omega,trivial⟩ ?_
    exact congrArg C117 hR
  exact Fn.go 18 Try.func117 (by kernel_rfl) (by kernel_rfl) (by simp [C117,Frs,FrsL,FrsB,rowOf,cInt,cBool,cStr,cSl,FrsL_app,cPerson,cUnion,cFamily]) (A117 x0) (by kernel_rfl) (aux _ rfl)
def k117 (x0 : Family) : Cl:=(hres (C117 (l1Copy x0)),k2 (ok_spec_l1Copy x0))
end Go.Proofs.Ytikfeeaapenplaa
