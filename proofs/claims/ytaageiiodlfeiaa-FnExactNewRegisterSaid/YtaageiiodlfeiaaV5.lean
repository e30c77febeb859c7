import Derived.Test.YtaageiiodlfeiaaV4
set_option maxHeartbeats 4000000
set_option linter.unusedSimpArgs false
set_option linter.unusedVariables false
namespace Go.Proofs.Ytaageiiodlfeiaa
open Go Go.Lite Go.Proofs
def C138 (R : Bool) : LV × List (Nat × BC) := (.bool R, [])
def implIsName (x0 : List UInt8) : Bool := bif ((decide (((x0.length : Nat) : Int) < 1)) || (decide (12 < ((x0.length : Nat) : Int)))) then false else (loopN (fun i1 (v1 : Unit) next => bif ((decide (((x0.getD i1 0).toNat : Int) < 97)) || (decide (122 < ((x0.getD i1 0).toNat : Int)))) then false else (next ())) (fun (v1 : Unit) => true) x0.length 0 ())
def D138b1 (x0 : List UInt8) (i1 : Nat) (v1 : Unit) : Dl := ⟨[(3, .int .i64 ((i1 : Nat) : Int))], []⟩
def A138b1 (x0 : List UInt8) (i1 : Nat) (v1 : Unit) : Ann := r0 1 [0, 2, 3, 15] [] (cn (decide (((i1 : Nat) : Int) < ((x0.length : Nat) : Int))) (.reg 1 [] [] [0, 2, 3, 27] [] [!(decide (((x0.getD i1 0).toNat : Int) < 97)), decide (((x0.getD i1 0).toNat : Int) < 97)] [pf (0 ≤ (((i1 : Nat) : Int) : Int) ∧ (((i1 : Nat) : Int) : Int) < ((x0.length : Nat) : Int)), gt (!(decide (((x0.getD i1 0).toNat : Int) < 97))) (pf (0 ≤ (((i1 : Nat) : Int) : Int) ∧ (((i1 : Nat) : Int) : Int) < ((x0.length : Nat) : Int)))] [] [0, 1, 1, 4, 1, 6] (cn ((decide (((x0.getD i1 0).toNat : Int) < 97)) || (decide (122 < ((x0.getD i1 0).toNat : Int)))) (r0 1 [0, 2, 3] [] (rt [] (C138 false))) (r1 1 [0, 2, 3] [] [pf (inR .i64 (((i1 : Nat) : Int) + 1))] [0] (.next 0 [] (D138b1 x0 (i1 + 1) ()))))) (r0 1 [2] [] (rt [] (C138 true))))
def A138 (x0 : List UInt8) : Ann := r0 1 [0, 2] [] (.reg 1 [] [] [0, 2, 11] [] [!(decide (((x0.length : Nat) : Int) < 1)), decide (((x0.length : Nat) : Int) < 1)] [] [] [1, 1, 6] (cn ((decide (((x0.length : Nat) : Int) < 1)) || (decide (12 < ((x0.length : Nat) : Int)))) (r0 1 [0, 2] [] (rt [] (C138 false))) (r0 1 [0, 2, 3] [] (lp (D138b1 x0) [] [] [] (D138b1 x0 0 ()) (A138b1 x0)))))
theorem ok_impl_IsName (x0 : List UInt8) (hx : x0.length ≤ 1048576) : FnT Try.prog 138 [.str x0] (C138 (implIsName x0)) := by
  have aux : ∀ R, implIsName x0 = R → slim (C138 R) (A138 x0) [] := by
    intro R hR
    refine rg trivial ?_
    refine rg trivial ?_
    revert hR; refine cd (fun hc1 hR => ?_) fun hc1 hR => ?_
    ·
      refine rg trivial ?_
      exact congrArg C138 hR
    ·
      refine rg trivial ?_
      revert hR; refine lN (fun i v => True) (by trivial) rfl fun i1 v1 F1 hn1 hI1 hR hK1 => ?_
      refine rg trivial ?_
      refine ⟨fun hc2 => ?_, fun hc2 => ?_⟩
      · have hii1 : i1 < x0.length := by have := of_decide_eq_true hc2; omega
        replace hR := loopN_step hR hii1
        refine rg ⟨by (intros; omega), by (intros; omega), trivial⟩ ?_
        revert hR; refine cd (fun hc3 hR => ?_) fun hc3 hR => ?_
        ·
          refine rg trivial ?_
          exact congrArg C138 hR
        ·
          refine rg ⟨by ( intros; simp only [inR]; omega), trivial⟩ ?_
          exact hK1 () hii1 (by trivial) hR
      · obtain rfl : i1 = x0.length := by have := of_decide_eq_false hc2; omega
        replace hR := loopN_end hR (Nat.lt_irrefl _)
        refine rg trivial ?_
        exact congrArg C138 hR
  exact Fn.go 28 Try.func138 (by kernel_rfl) (by kernel_rfl) (by simp [C138, Frs, FrsL]) (A138 x0) (by kernel_rfl) (aux _ rfl)
def k138 (x0 : List UInt8) : Cl := (hres (C138 (implIsName x0)), k1 (ok_impl_IsName x0))
end Go.Proofs.Ytaageiiodlfeiaa
