import Derived.Test.YtanfabaedopeiaaVR2
set_option maxHeartbeats 4000000
set_option linter.unusedSimpArgs false
set_option linter.unusedVariables false
namespace Go.Proofs.Ytanfabaedopeiaa
open Go Go.Lite Go.Proofs
def C102 (R : Bool) : LV × List (Nat × BC) := (.bool R, [])
def implAre (x0 : List Rule) : Bool := bif (decide (12 < ((x0.length : Nat) : Int))) then false else (loopN (fun i1 (v1 : (KV → Option Bool)) next => bif ((!(implIsRule (x0.getD i1 default))) || ((v1 (KV.s ((x0.getD i1 default).name))).getD false)) then false else (next (mset v1 (KV.s ((x0.getD i1 default).name)) true))) (fun (v1 : (KV → Option Bool)) => true) x0.length 0 (fun _ => none))
def D102b1 (x0 : List Rule) (i1 : Nat) (v1 : (KV → Option Bool)) : Dl := ⟨[(12, .int .i64 ((i1 : Nat) : Int)), (3, .mp 20003)], [(20003, .mp .str (.b v1))]⟩
def A102b1 (x0 : List Rule) (i1 : Nat) (v1 : (KV → Option Bool)) : Ann := r0 1 [2, 3, 10, 11, 12, 13] [20003] (cn (decide (((i1 : Nat) : Int) < ((x0.length : Nat) : Int))) (r1 1 [2, 3, 5, 10, 11, 12] [5, 20003] [pf (0 ≤ (((i1 : Nat) : Int) : Int) ∧ (((i1 : Nat) : Int) : Int) < ((x0.length : Nat) : Int))] [0] (.reg 1 [] [(1, k165 (x0.getD i1 default))] [2, 3, 5, 10, 11, 12, 24] [5, 20003] [!(!(implIsRule (x0.getD i1 default))), !(implIsRule (x0.getD i1 default))] [] [] [0, 1, 1, 1, 6] (cn ((!(implIsRule (x0.getD i1 default))) || ((v1 (KV.s ((x0.getD i1 default).name))).getD false)) (r0 1 [2, 3, 5, 10, 11, 12] [5, 20003] (rt [] (C102 false))) (r0 1 [2, 3, 10, 11, 12] [20003] (r1 1 [2, 3, 10, 11, 12] [20003] [pf (inR .i64 (((i1 : Nat) : Int) + 1))] [0] (.next 0 [(20003, some 20003)] (D102b1 x0 (i1 + 1) (mset v1 (KV.s ((x0.getD i1 default).name)) true)))))))) (r0 1 [2] [] (rt [] (C102 true))))
def A102 (x0 : List Rule) : Ann := r0 1 [0, 2] [] (r0 1 [0, 2, 8] [] (cn (decide (12 < ((x0.length : Nat) : Int))) (r0 1 [0, 2] [] (rt [] (C102 false))) (r0 1 [0, 2, 3] [9] (r0 1 [2, 3, 10, 11, 12] [9] (lp (D102b1 x0) [] [9] [(20003, some 9)] (D102b1 x0 0 (fun _ => none)) (A102b1 x0))))))
theorem ok_impl_AreRules (x0 : List Rule) (hx : x0.length ≤ 1048576) (hr : ∀ r ∈ x0, r.name.length ≤ 1048576 ∧ r.from0.length ≤ 1048576 ∧ r.to.length ≤ 1048576) : FnT Try.prog 102 [.ro false 5 x0.length (rowOf (cRule false) x0)] (C102 (implAre x0)) := by
  have aux : ∀ R, implAre x0 = R → slim (C102 R) (A102 x0) [] := by
    intro R hR
    refine rg trivial ?_
    refine rg trivial ?_
    revert hR; refine cd (fun hc1 hR => ?_) fun hc1 hR => ?_
    ·
      refine rg trivial ?_
      exact congrArg C102 hR
    ·
      refine rg trivial ?_
      refine rg trivial ?_
      revert hR; refine lN (fun i v => True) (by trivial) rfl fun i1 v1 F1 hn1 hI1 hR hK1 => ?_
      refine rg trivial ?_
      refine ⟨fun hc2 => ?_, fun hc2 => ?_⟩
      · have hii1 : i1 < x0.length := by have := of_decide_eq_true hc2; omega
        replace hR := loopN_step hR hii1
        refine rg ⟨by (intros; omega), trivial⟩ ?_
        refine rg ⟨by (have h9 := hr _ (getD_mem (d := default) hii1); omega), trivial⟩ ?_
        revert hR; refine cd (fun hc3 hR => ?_) fun hc3 hR => ?_
        ·
          refine rg trivial ?_
          exact congrArg C102 hR
        ·
          refine rg trivial ?_
          refine rg ⟨by ( intros; simp only [inR]; omega), trivial⟩ ?_
          exact hK1 (mset v1 (KV.s ((x0.getD i1 default).name)) true) hii1 (by trivial) hR
      · obtain rfl : i1 = x0.length := by have := of_decide_eq_false hc2; omega
        replace hR := loopN_end hR (Nat.lt_irrefl _)
        refine rg trivial ?_
        exact congrArg C102 hR
  exact Fn.go 29 Try.func102 (by kernel_rfl) (by kernel_rfl) (by simp [C102, Frs, FrsL]) (A102 x0) (by kernel_rfl) (aux _ rfl)
def k102 (x0 : List Rule) : Cl := (hres (C102 (implAre x0)), k2 (ok_impl_AreRules x0))
def C88 (R : Bool) : LV × List (Nat × BC) := (.bool R, [])
def specAre (x0 : List Rule) : Bool := bif (decide (12 < ((x0.length : Nat) : Int))) then false else (loopN (fun i1 (v1 : Unit) nx1 => loopN (fun i2 (v2 : Unit) next => bif (((x0.getD i2 default).name) == ((x0.getD i1 default).name)) then false else (next ())) (fun (v2 : Unit) => bif (!(specIsRule (x0.getD i1 default))) then false else (nx1 ())) i1 0 ()) (fun (v1 : Unit) => true) x0.length 0 ())
def D88b1 (x0 : List Rule) (i1 : Nat) (v1 : Unit) : Dl := ⟨[(11, .int .i64 ((i1 : Nat) : Int))], []⟩
def D88b2 (x0 : List Rule) (i1 : Nat) (v1 : Unit) (i2 : Nat) (v2 : Unit) : Dl := ⟨[(5, .int .i64 ((i2 : Nat) : Int))], []⟩
def A88b2 (x0 : List Rule) (i1 : Nat) (v1 : Unit) (i2 : Nat) (v2 : Unit) : Ann := r0 1 [0, 2, 3, 4, 5, 9, 10, 11, 18] [4] (cn (decide (((i2 : Nat) : Int) < ((i1 : Nat) : Int))) (r1 1 [0, 2, 3, 4, 5, 9, 10, 11, 28] [4] [pf (0 ≤ (((i2 : Nat) : Int) : Int) ∧ (((i2 : Nat) : Int) : Int) < ((x0.length : Nat) : Int))] [0] (cn (((x0.getD i2 default).name) == ((x0.getD i1 default).name)) (r0 1 [0, 2, 3, 4, 5, 9, 10, 11] [4] (rt [] (C88 false))) (r1 1 [0, 2, 3, 4, 5, 9, 10, 11] [4] [pf (inR .i64 (((i2 : Nat) : Int) + 1))] [0] (.next 0 [] (D88b2 x0 i1 v1 (i2 + 1) ()))))) (.reg 1 [] [(1, k155 (x0.getD i1 default))] [0, 2, 9, 10, 11, 31] [] [] [] [] [0] (cn (!(specIsRule (x0.getD i1 default))) (r0 1 [0, 2, 9, 10, 11] [] (rt [] (C88 false))) (r1 1 [0, 2, 9, 10, 11] [] [pf (inR .i64 (((i1 : Nat) : Int) + 1))] [0] (.next 1 [] (D88b1 x0 (i1 + 1) ()))))))
def A88b1 (x0 : List Rule) (i1 : Nat) (v1 : Unit) : Ann := r0 1 [0, 2, 9, 10, 11, 12] [] (cn (decide (((i1 : Nat) : Int) < ((x0.length : Nat) : Int))) (r1 1 [0, 2, 3, 4, 9, 10, 11] [4] [pf (0 ≤ (((i1 : Nat) : Int) : Int) ∧ (((i1 : Nat) : Int) : Int) < ((x0.length : Nat) : Int))] [0] (r0 1 [0, 2, 3, 4, 5, 9, 10, 11] [4] (lp (D88b2 x0 i1 v1) [] [] [] (D88b2 x0 i1 v1 0 ()) (A88b2 x0 i1 v1)))) (r0 1 [2] [] (rt [] (C88 true))))
def A88 (x0 : List Rule) : Ann := r0 1 [0, 2] [] (r0 1 [0, 2, 8] [] (cn (decide (12 < ((x0.length : Nat) : Int))) (r0 1 [0, 2] [] (rt [] (C88 false))) (r0 1 [0, 2, 9, 10, 11] [] (lp (D88b1 x0) [] [] [] (D88b1 x0 0 ()) (A88b1 x0)))))
theorem ok_spec_AreRules (x0 : List Rule) (hx : x0.length ≤ 1048576) (hr : ∀ r ∈ x0, r.name.length ≤ 1048576 ∧ r.from0.length ≤ 1048576 ∧ r.to.length ≤ 1048576) : FnT Try.prog 88 [.ro false 5 x0.length (rowOf (cRule false) x0)] (C88 (specAre x0)) := by
  have aux : ∀ R, specAre x0 = R → slim (C88 R) (A88 x0) [] := by
    intro R hR
    refine rg trivial ?_
    refine rg trivial ?_
    revert hR; refine cd (fun hc1 hR => ?_) fun hc1 hR => ?_
    ·
      refine rg trivial ?_
      exact congrArg C88 hR
    ·
      refine rg trivial ?_
      revert hR; refine lN (fun i v => True) (by trivial) rfl fun i1 v1 F1 hn1 hI1 hR hK1 => ?_
      refine rg trivial ?_
      refine ⟨fun hc2 => ?_, fun hc2 => ?_⟩
      · have hii1 : i1 < x0.length := by have := of_decide_eq_true hc2; omega
        replace hR := loopN_step hR hii1
        refine rg ⟨by (intros; omega), trivial⟩ ?_
        refine rg trivial ?_
        revert hR; refine lN (fun i v => True) (by trivial) rfl fun i2 v2 F2 hn2 hI2 hR hK2 => ?_
        refine rg trivial ?_
        refine ⟨fun hc3 => ?_, fun hc3 => ?_⟩
        · have hii2 : i2 < i1 := by have := of_decide_eq_true hc3; omega
          replace hR := loopN_step hR hii2
          refine rg ⟨by (intros; omega), trivial⟩ ?_
          revert hR; refine cd (fun hc4 hR => ?_) fun hc4 hR => ?_
          ·
            refine rg trivial ?_
            exact congrArg C88 hR
          ·
            refine rg ⟨by ( intros; simp only [inR]; omega), trivial⟩ ?_
            exact hK2 () hii2 (by trivial) hR
        · obtain rfl : i1 = i2 := by have := of_decide_eq_false hc3; omega
          replace hR := loopN_end hR (Nat.lt_irrefl _)
          refine rg ⟨by (have h9 := hr _ (getD_mem (d := default) hii1); omega), trivial⟩ ?_
          revert hR; refine cd (fun hc5 hR => ?_) fun hc5 hR => ?_
          ·
            refine rg trivial ?_
            exact congrArg C88 hR
          ·
            refine rg ⟨by ( intros; simp only [inR]; omega), trivial⟩ ?_
            exact hK1 () hii1 (by trivial) hR
      · obtain rfl : i1 = x0.length := by have := of_decide_eq_false hc2; omega
        replace hR := loopN_end hR (Nat.lt_irrefl _)
        refine rg trivial ?_
        exact congrArg C88 hR
  exact Fn.go 33 Try.func88 (by kernel_rfl) (by kernel_rfl) (by simp [C88, Frs, FrsL]) (A88 x0) (by kernel_rfl) (aux _ rfl)
def k88 (x0 : List Rule) : Cl := (hres (C88 (specAre x0)), k2 (ok_spec_AreRules x0))
end Go.Proofs.Ytanfabaedopeiaa
