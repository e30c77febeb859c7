import Derived.Test.YtaooopgdcneohaaM20
set_option maxHeartbeats 4000000
set_option linter.unusedSimpArgs false
set_option linter.unusedVariables false
namespace Go.Proofs.Ytaooopgdcneohaa
open Go Go.Lite Go.Proofs
def C14 (x0 : Family) (x1 : Int) (R : Int × Family) : LV × List (Nat × BC) := (.int .i64 R.1, [(900000, .arr 6 R.2.people.length (rowOf (cPerson true) R.2.people)), (900001, .arr 4 R.2.unions.length (rowOf (cUnion true) R.2.unions))])
def markFamily (x0 : Family) (x1 : Int) : Int × Family := ((markUnionS x0.unions ((markPersonS x0.people x1).1)).1, (Family.mk ((markPersonS x0.people x1).2) ((markUnionS x0.unions ((markPersonS x0.people x1).1)).2)))
def A14 (x0 : Family) (x1 : Int) : Ann := .reg 4 [] [(1003, k47 8 [900000] x0.people x1), (2003, k48 12 [900001] x0.unions ((markPersonS x0.people x1).1))] [4] [900000, 900001] [] [] [] [0, 4] (rt [(900000, some 900000), (900001, some 900001)] (C14 x0 x1 ((markUnionS x0.unions ((markPersonS x0.people x1).1)).1, (Family.mk ((markPersonS x0.people x1).2) ((markUnionS x0.unions ((markPersonS x0.people x1).1)).2)))))
theorem ok_laws_markFamily (x0 : Family) (x1 : Int) (hx : x0.people.length ≤ 1048576) (hu : x0.unions.length ≤ 1048576) (hk : 0 ≤ x1 ∧ x1 ≤ 10000000) : FnMT Try.prog 14 [.agg [.own 900000, .own 900001], .int .i64 x1] [.arr 6 x0.people.length (rowOf (cPerson true) x0.people), .arr 4 x0.unions.length (rowOf (cUnion true) x0.unions)] (C14 x0 x1 (markFamily x0 x1)) := by
  have aux : ∀ R, markFamily x0 x1 = R → slim (C14 x0 x1 R) (A14 x0 x1) [] := by
    intro R hR
    refine rg ⟨⟨by trivial, by (intros; omega)⟩, ⟨by trivial, by (have := markPersonS_val x0.people x1; omega)⟩, trivial⟩ ?_
    exact congrArg (C14 x0 x1) hR
  exact FnM.go 14 Try.func14 (by kernel_rfl) (by kernel_rfl) (A14 x0 x1) (by kernel_rfl) (aux _ rfl)
def k14 (d : Nat) (ids : List Nat) (x0 : Family) (x1 : Int) : Cl := (hresM d ids (C14 x0 x1 (markFamily x0 x1)), k3 (ok_laws_markFamily x0 x1))
end Go.Proofs.Ytaooopgdcneohaa
