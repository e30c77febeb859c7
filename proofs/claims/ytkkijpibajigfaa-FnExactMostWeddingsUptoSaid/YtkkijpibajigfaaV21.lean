import Derived.Test.YtkkijpibajigfaaV20
set_option maxHeartbeats 4000000
set_option linter.unusedSimpArgs false
set_option linter.unusedVariables false
namespace Go.Proofs.Ytkkijpibajigfaa
open Go Go.Lite Go.Proofs
theorem markIntS_val (l : List Int) (k : Int) : (markIntS l k).1 = k + l.length ∧ (markIntS l k).2.length = l.length ∧ ∀ i : Nat, i < l.length → (markIntS l k).2.getD i default = k + i := by
  unfold markIntS
  refine loopN_to (fun i (v : List Int × Int) => v.1.length = l.length ∧ v.2 = k + i ∧ ∀ j : Nat, j < i → v.1.getD j default = k + j) (fun (r : Int × List Int) => r.1 = k + l.length ∧ r.2.length = l.length ∧ ∀ i : Nat, i < l.length → r.2.getD i default = k + i) ⟨rfl, by simp, fun j hj => absurd hj (Nat.not_lt_zero _)⟩ (fun i v next hi hv hn => hn _ ⟨by simp [hv.1], by rw [hv.2.1]; simp only; omega, fun j hj => ?_⟩) (fun v hv => ⟨hv.2.1, hv.1, hv.2.2⟩)
  rw [getD_set]
  split
  · rename_i e; rw [e.1, hv.2.1]
  · rename_i e; exact hv.2.2 j (by have := hv.1; omega)
theorem heldIntS_of (l : List Int) (k : Int) (h : ∀ i : Nat, i < l.length → l.getD i default = k + i) : heldIntS l k = k + l.length := by
  unfold heldIntS
  refine loopN_to (fun i (v : Int) => v = k + i) (fun (r : Int) => r = k + l.length) (by simp) (fun i v next hi hv hn => ?_) (fun v hv => hv)
  rw [hv, h i hi]
  simp only [decide_true, Bool.not_true, cond_false]
  exact hn _ (by omega)
theorem held_mark (l : List Int) (k : Int) : heldIntS (markIntS l k).2 k = (markIntS l k).1 := by
  obtain ⟨h1, h2, h3⟩ := markIntS_val l k
  rw [heldIntS_of _ _ (by rw [h2]; exact h3), h1, h2]
theorem markPersonS_val (l : List Person) (k : Int) : (markPersonS l k).1 = k + 6 * l.length := by
  unfold markPersonS
  exact loopN_to (fun i (v : List Person × Int) => v.2 = k + 6 * i) (fun (r : Int × List Person) => r.1 = k + 6 * l.length) (by simp) (fun i v next hi hv hn => hn _ (by rw [hv]; simp only; omega)) (fun v hv => hv)
theorem markUnionS_val (l : List Union) (k : Int) : (markUnionS l k).1 = k + 4 * l.length := by
  unfold markUnionS
  exact loopN_to (fun i (v : List Union × Int) => v.2 = k + 4 * i) (fun (r : Int × List Union) => r.1 = k + 4 * l.length) (by simp) (fun i v next hi hv hn => hn _ (by rw [hv]; simp only; omega)) (fun v hv => hv)
def markFamily (x0 : Family) (x1 : Int) : Int × Family := ((markUnionS x0.unions ((markPersonS x0.people x1).1)).1, (Family.mk ((markPersonS x0.people x1).2) ((markUnionS x0.unions ((markPersonS x0.people x1).1)).2)))
end Go.Proofs.Ytkkijpibajigfaa
