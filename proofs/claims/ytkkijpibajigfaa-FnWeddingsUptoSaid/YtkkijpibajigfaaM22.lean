import Derived.Test.YtkkijpibajigfaaV20
set_option maxHeartbeats 4000000
set_option linter.unusedSimpArgs false
set_option linter.unusedVariables false
namespace Go.Proofs.Ytkkijpibajigfaa
open Go Go.Lite Go.Proofs
def C79 (R : Bool) : LV × List (Nat × BC):=(.bool R,[])
def isAncestor (x0 : Family) (x1 : Int) (x2 : Int) : Bool:=decide (0 < ((stepsUp x0 x2).getD x1.toNat default))
def A79 (x0 : Family) (x1 : Int) (x2 : Int) : Ann:=.reg 2 [] [(1002,k78 x0 x2)] [6] [] [] [pf (0 ≤ (x1 : Int) ∧ (x1 : Int) < (((stepsUp x0 x2).length : Nat) : Int))] [] [4,0] (rt [] (C79 (decide (0 < ((stepsUp x0 x2).getD x1.toNat default)))))
theorem ok_impl_isAncestor (x0 : Family) (x1 : Int) (x2 : Int) (hx : x0.people.length ≤ 1048576) (hi : 0 ≤ x1 ∧ x1 < x0.people.length) (hj : 0 ≤ x2 ∧ x2 < x0.people.length) (hp : ∀ (k : Nat), k < x0.people.length → (x0.people.getD k default).father < k ∧ (x0.people.getD k default).mother < k) : FnT Try.prog 79 [.agg (cFamily false x0), .int .i64 x1, .int .i64 x2] (C79 (isAncestor x0 x1 x2)) := by
  have aux : ∀ R, isAncestor x0 x1 x2 = R → slim (C79 R) (A79 x0 x1 x2) [] := by
    intro R hR
    refine rg ⟨by (have:=stepsUp_len x0 x2 hp hj;omega),⟨by trivial,by trivial,by trivial⟩,trivial⟩ ?_
    exact congrArg C79 hR
  exact Fn.go 14 Try.func79 (by kernel_rfl) (by kernel_rfl) (by simp [C79,Frs,FrsL]) (A79 x0 x1 x2) (by kernel_rfl) (aux _ rfl)
def k79 (x0 : Family) (x1 : Int) (x2 : Int) : Cl:=(hres (C79 (isAncestor x0 x1 x2)),k4 (ok_impl_isAncestor x0 x1 x2))
theorem isAncestor_eq {x : Family} (hf : specIsFamily x = true) {q p : Int} (hp : 0 ≤ p ∧ p < x.people.length) : isAncestor x q p = decide (0 < (l8Up x p).getD q.toNat default) := by
  unfold isAncestor
  rw [stepsUp_eq x p (isFamily_par x hf) hp]
theorem has1_eq (x : Family) (p : Int) : implHas x [p] = l1Has x p := by
  rw [Bool.eq_iff_iff,implHas1,l1Has_iff];exact and_comm
theorem filterLoop_len {n : Nat} {p : Nat → Bool} {f : Nat → Int} : (loopN (fun i (v : List Int) next => bif p i then next (v ++ [f i]) else next v) (fun v => v) n 0 []).length ≤ n :=
  loopN_to (fun i (v : List Int)=>v.length ≤ i) (fun (r : List Int)=>r.length ≤ n) (by simp) (fun i v next hi hv hn=>cond_both (p:=fun (r : List Int)=>r.length ≤ n) (fun _=>hn _ (by simp;omega)) (fun _=>hn _ (by omega))) (fun v hv=>hv)
end Go.Proofs.Ytkkijpibajigfaa
