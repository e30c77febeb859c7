import Derived.Test.YtaageiiodlfeiaaV1
set_option maxHeartbeats 4000000
set_option linter.unusedSimpArgs false
set_option linter.unusedVariables false
namespace Go.Proofs.Ytaageiiodlfeiaa
open Go Go.Lite Go.Proofs
def C83 (R : Bool) : LV × List (Nat × BC) := (.bool R, [])
def l1In (x0 : Int) (x1 : Int) (x2 : Int) : Bool := (decide (x1 ≤ x0)) && (decide (x0 ≤ x2))
def A83 (x0 : Int) (x1 : Int) (x2 : Int) : Ann := .reg 2 [] [] [6] [] [decide (x1 ≤ x0)] [] [] [1, 1, 1] (rt [] (C83 ((decide (x1 ≤ x0)) && (decide (x0 ≤ x2)))))
theorem ok_spec_l1In (x0 : Int) (x1 : Int) (x2 : Int) : FnT Try.prog 83 [.int .i64 x0, .int .i64 x1, .int .i64 x2] (C83 (l1In x0 x1 x2)) := by
  have aux : ∀ R, l1In x0 x1 x2 = R → slim (C83 R) (A83 x0 x1 x2) [] := by
    intro R hR
    refine rg trivial ?_
    exact congrArg C83 hR
  exact Fn.go 15 Try.func83 (by kernel_rfl) (by kernel_rfl) (by simp [C83, Frs, FrsL]) (A83 x0 x1 x2) (by kernel_rfl) (aux _ rfl)
def k83 (x0 : Int) (x1 : Int) (x2 : Int) : Cl := (hres (C83 (l1In x0 x1 x2)), k0 (ok_spec_l1In x0 x1 x2))
def C175 (R : Bool) : LV × List (Nat × BC) := (.bool R, [])
def specIsName (x0 : List UInt8) : Bool := loopN (fun i1 (v1 : Unit) next => bif ((decide (((x0.getD i1 0).toNat : Int) < 97)) || (decide (122 < ((x0.getD i1 0).toNat : Int)))) then false else (next ())) (fun (v1 : Unit) => l1In ((x0.length : Nat) : Int) 1 12) x0.length 0 ()
def D175b1 (x0 : List UInt8) (i1 : Nat) (v1 : Unit) : Dl := ⟨[(3, .int .i64 ((i1 : Nat) : Int))], []⟩
def A175b1 (x0 : List UInt8) (i1 : Nat) (v1 : Unit) : Ann := r0 1 [0, 2, 3, 7] [] (cn (decide (((i1 : Nat) : Int) < ((x0.length : Nat) : Int))) (.reg 1 [] [] [0, 2, 3, 19] [] [!(decide (((x0.getD i1 0).toNat : Int) < 97)), decide (((x0.getD i1 0).toNat : Int) < 97)] [pf (0 ≤ (((i1 : Nat) : Int) : Int) ∧ (((i1 : Nat) : Int) : Int) < ((x0.length : Nat) : Int)), gt (!(decide (((x0.getD i1 0).toNat : Int) < 97))) (pf (0 ≤ (((i1 : Nat) : Int) : Int) ∧ (((i1 : Nat) : Int) : Int) < ((x0.length : Nat) : Int)))] [] [0, 1, 1, 4, 1, 6] (cn ((decide (((x0.getD i1 0).toNat : Int) < 97)) || (decide (122 < ((x0.getD i1 0).toNat : Int)))) (r0 1 [0, 2, 3] [] (rt [] (C175 false))) (r1 1 [0, 2, 3] [] [pf (inR .i64 (((i1 : Nat) : Int) + 1))] [0] (.next 0 [] (D175b1 x0 (i1 + 1) ()))))) (.reg 1 [] [(2, k83 ((x0.length : Nat) : Int) 1 12)] [2] [] [] [] [] [0] (rt [] (C175 (l1In ((x0.length : Nat) : Int) 1 12)))))
def A175 (x0 : List UInt8) : Ann := r0 1 [0, 2] [] (r0 1 [0, 2, 3] [] (lp (D175b1 x0) [] [] [] (D175b1 x0 0 ()) (A175b1 x0)))
theorem ok_spec_IsName (x0 : List UInt8) (hx : x0.length ≤ 1048576) : FnT Try.prog 175 [.str x0] (C175 (specIsName x0)) := by
  have aux : ∀ R, specIsName x0 = R → slim (C175 R) (A175 x0) [] := by
    intro R hR
    refine rg trivial ?_
    refine rg trivial ?_
    revert hR; refine lN (fun i v => True) (by trivial) rfl fun i1 v1 F1 hn1 hI1 hR hK1 => ?_
    refine rg trivial ?_
    refine ⟨fun hc1 => ?_, fun hc1 => ?_⟩
    · have hii1 : i1 < x0.length := by have := of_decide_eq_true hc1; omega
      replace hR := loopN_step hR hii1
      refine rg ⟨by (intros; omega), by (intros; omega), trivial⟩ ?_
      revert hR; refine cd (fun hc2 hR => ?_) fun hc2 hR => ?_
      ·
        refine rg trivial ?_
        exact congrArg C175 hR
      ·
        refine rg ⟨by ( intros; simp only [inR]; omega), trivial⟩ ?_
        exact hK1 () hii1 (by trivial) hR
    · obtain rfl : i1 = x0.length := by have := of_decide_eq_false hc1; omega
      replace hR := loopN_end hR (Nat.lt_irrefl _)
      refine rg ⟨trivial, trivial⟩ ?_
      exact congrArg C175 hR
  exact Fn.go 23 Try.func175 (by kernel_rfl) (by kernel_rfl) (by simp [C175, Frs, FrsL]) (A175 x0) (by kernel_rfl) (aux _ rfl)
def k175 (x0 : List UInt8) : Cl := (hres (C175 (specIsName x0)), k1 (ok_spec_IsName x0))
end Go.Proofs.Ytaageiiodlfeiaa
