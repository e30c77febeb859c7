import Derived.Test.YtaooopgdcneohaaV22
set_option maxHeartbeats 4000000
set_option linter.unusedSimpArgs false
set_option linter.unusedVariables false
namespace Go.Proofs.Ytaooopgdcneohaa
open Go Go.Lite Go.Proofs
theorem isAncestor_eq {x : Family} (hf : specIsFamily x = true) {q p : Int} (hp : 0 ≤ p ∧ p < x.people.length) : isAncestor x q p = decide (0 < (l8Up x p).getD q.toNat default) := by
  unfold isAncestor
  rw [stepsUp_eq x p (isFamily_par x hf) hp]
theorem has1_eq (x : Family) (p : Int) : implHas x [p] = l1Has x p := by
  rw [Bool.eq_iff_iff, implHas1, l1Has_iff]; exact and_comm
theorem filterLoop_len {n : Nat} {p : Nat → Bool} {f : Nat → Int} : (loopN (fun i (v : List Int) next => bif p i then next (v ++ [f i]) else next v) (fun v => v) n 0 []).length ≤ n :=
  loopN_to (fun i (v : List Int) => v.length ≤ i) (fun (r : List Int) => r.length ≤ n) (by simp) (fun i v next hi hv hn => cond_both (p := fun (r : List Int) => r.length ≤ n) (fun _ => hn _ (by simp; omega)) (fun _ => hn _ (by omega))) (fun v hv => hv)
end Go.Proofs.Ytaooopgdcneohaa
