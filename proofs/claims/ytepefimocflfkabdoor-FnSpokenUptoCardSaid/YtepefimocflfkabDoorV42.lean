import Derived.Test.YtepefimocflfkabDoorM42
set_option maxHeartbeats 4000000
set_option linter.unusedSimpArgs false
set_option linter.unusedVariables false
namespace Go.Proofs.YtepefimocflfkabDoor
open Go Go.Lite Go.Proofs
def C35 (x0 : l01Cur) (x1 : Int) (R : Bool × Int × Int) : LV × List (Nat × BC) := (.bool R.1, [(900000, .var [.ro false 1 x0.b.length (rowOf (cInt .u8) x0.b), .int .i64 R.2.1, .int .i64 R.2.2])])
def l01Once (x0 : l01Cur) (x1 : Int) : Bool × Int × Int := (decide (((l01Below x0 x1).1) = 0), (l01Below x0 x1).2.1, (l01Below x0 x1).2.2)
def A35 (x0 : l01Cur) (x1 : Int) : Ann := .reg 2 [] [(1002, k42 7 [900000] x0 x1)] [4] [900000] [] [] [] [0] (rt [(900000, some 900000)] (C35 x0 x1 (decide (((l01Below x0 x1).1) = 0), (l01Below x0 x1).2.1, (l01Below x0 x1).2.2)))
theorem ok_spec_l01Once (x0 : l01Cur) (x1 : Int) (hc : CurOk x0) (hn : x1 ≤ 256) : FnMT Tryd.prog 35 [.vp 900000 0, .int .i64 x1] [.var [.ro false 1 x0.b.length (rowOf (cInt .u8) x0.b), .int .i64 x0.i, .int .i64 x0.h]] (C35 x0 x1 (l01Once x0 x1)) := by
  have aux : ∀ R, l01Once x0 x1 = R → slim (C35 x0 x1 R) (A35 x0 x1) [] := by
    intro R hR
    refine rg ⟨⟨by trivial, by trivial⟩, trivial⟩ ?_
    exact congrArg (C35 x0 x1) hR
  exact FnM.go 9 Tryd.func35 (by kernel_rfl) (by kernel_rfl) (A35 x0 x1) (by kernel_rfl) (aux _ rfl)
def k35 (d : Nat) (ids : List Nat) (x0 : l01Cur) (x1 : Int) : Cl := (hresM d ids (C35 x0 x1 (l01Once x0 x1)), k2 (ok_spec_l01Once x0 x1))
def C34 (x0 : l01Cur) (x1 : List Int) (R : Int × Int × Int) : LV × List (Nat × BC) := (.int .i64 R.1, [(900000, .var [.ro false 1 x0.b.length (rowOf (cInt .u8) x0.b), .int .i64 R.2.1, .int .i64 R.2.2])])
def l01Int (x0 : l01Cur) (x1 : List Int) : Int × Int × Int := ((x1.getD (((l01Below x0 ((x1.length : Nat) : Int)).1).toNat) default), (l01Below x0 ((x1.length : Nat) : Int)).2.1, (l01Below x0 ((x1.length : Nat) : Int)).2.2)
def A34 (x0 : l01Cur) (x1 : List Int) : Ann := .reg 2 [] [(1004, k42 9 [900000] x0 ((x1.length : Nat) : Int))] [4] [900000, 900001] [] [pf (0 ≤ ((l01Below x0 ((x1.length : Nat) : Int)).1 : Int) ∧ ((l01Below x0 ((x1.length : Nat) : Int)).1 : Int) < ((x1.length : Nat) : Int))] [] [4, 0] (rt [(900000, some 900000)] (C34 x0 x1 ((x1.getD (((l01Below x0 ((x1.length : Nat) : Int)).1).toNat) default), (l01Below x0 ((x1.length : Nat) : Int)).2.1, (l01Below x0 ((x1.length : Nat) : Int)).2.2)))
theorem ok_spec_l01Int (x0 : l01Cur) (x1 : List Int) (hc : CurOk x0) (hn : 0 < x1.length ∧ x1.length ≤ 256) : FnMT Tryd.prog 34 [.vp 900000 0, .own 900001] [.var [.ro false 1 x0.b.length (rowOf (cInt .u8) x0.b), .int .i64 x0.i, .int .i64 x0.h], .arr 1 x1.length (rowOf (cInt .i64) x1)] (C34 x0 x1 (l01Int x0 x1)) := by
  have aux : ∀ R, l01Int x0 x1 = R → slim (C34 x0 x1 R) (A34 x0 x1) [] := by
    intro R hR
    refine rg ⟨by (have h9 := l01Below_ok hc (n := ((x1.length : Nat) : Int)) (by omega); omega), ⟨by trivial, by (intros; omega)⟩, trivial⟩ ?_
    exact congrArg (C34 x0 x1) hR
  exact FnM.go 12 Tryd.func34 (by kernel_rfl) (by kernel_rfl) (A34 x0 x1) (by kernel_rfl) (aux _ rfl)
def k34 (d : Nat) (ids : List Nat) (x0 : l01Cur) (x1 : List Int) : Cl := (hresM d ids (C34 x0 x1 (l01Int x0 x1)), k2 (ok_spec_l01Int x0 x1))
end Go.Proofs.YtepefimocflfkabDoor
