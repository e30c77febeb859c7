import Derived.Test.YtaooopgdcneohabV71
set_option maxHeartbeats 4000000
set_option linter.unusedSimpArgs false
set_option linter.unusedVariables false
namespace Go.Proofs.Ytaooopgdcneohab
open Go Go.Lite Go.Proofs
theorem markPersonS_get (l : List Person) (k : Int) : (markPersonS l k).2.length = l.length ∧ ∀ i : Nat, i < l.length → (markPersonS l k).2.getD i default = ⟨markText (k + 6 * i), k + 6 * i + 1, k + 6 * i + 2, k + 6 * i + 3, k + 6 * i + 4, k + 6 * i + 5⟩ := by
  unfold markPersonS
  refine loopN_to (fun i (v : List Person × Int) => v.1.length = l.length ∧ v.2 = k + 6 * i ∧ ∀ j : Nat, j < i → v.1.getD j default = ⟨markText (k + 6 * j), k + 6 * j + 1, k + 6 * j + 2, k + 6 * j + 3, k + 6 * j + 4, k + 6 * j + 5⟩)
    (fun (r : Int × List Person) => r.2.length = l.length ∧ ∀ i : Nat, i < l.length → r.2.getD i default = ⟨markText (k + 6 * i), k + 6 * i + 1, k + 6 * i + 2, k + 6 * i + 3, k + 6 * i + 4, k + 6 * i + 5⟩) ⟨rfl, by simp, fun j hj => absurd hj (Nat.not_lt_zero _)⟩ (fun i v next hi hv hn => hn _ ⟨by simp [hv.1], by rw [hv.2.1]; simp only; omega, fun j hj => ?_⟩) (fun v hv => ⟨hv.1, hv.2.2⟩)
  rw [getD_set]
  split
  · rename_i e
    rw [e.1, hv.2.1, Person.mk.injEq]
    exact ⟨rfl, by omega, by omega, by omega, by omega, by omega⟩
  · rename_i e; exact hv.2.2 j (by have := hv.1; omega)
theorem markUnionS_get (l : List Union) (k : Int) : (markUnionS l k).2.length = l.length ∧ ∀ i : Nat, i < l.length → (markUnionS l k).2.getD i default = ⟨k + 4 * i, k + 4 * i + 1, k + 4 * i + 2, k + 4 * i + 3⟩ := by
  unfold markUnionS
  refine loopN_to (fun i (v : List Union × Int) => v.1.length = l.length ∧ v.2 = k + 4 * i ∧ ∀ j : Nat, j < i → v.1.getD j default = ⟨k + 4 * j, k + 4 * j + 1, k + 4 * j + 2, k + 4 * j + 3⟩)
    (fun (r : Int × List Union) => r.2.length = l.length ∧ ∀ i : Nat, i < l.length → r.2.getD i default = ⟨k + 4 * i, k + 4 * i + 1, k + 4 * i + 2, k + 4 * i + 3⟩) ⟨rfl, by simp, fun j hj => absurd hj (Nat.not_lt_zero _)⟩ (fun i v next hi hv hn => hn _ ⟨by simp [hv.1], by rw [hv.2.1]; simp only; omega, fun j hj => ?_⟩) (fun v hv => ⟨hv.1, hv.2.2⟩)
  rw [getD_set]
  split
  · rename_i e
    rw [e.1, hv.2.1, Union.mk.injEq]
    exact ⟨by omega, by omega, by omega, by omega⟩
  · rename_i e; exact hv.2.2 j (by have := hv.1; omega)
theorem held_persons (l : List Person) (k : Int) : heldPersonS (markPersonS l k).2 k = k + 6 * l.length := by
  obtain ⟨h1, h2⟩ := markPersonS_get l k
  unfold heldPersonS
  rw [h1]
  refine loopN_to (fun i (v : Int) => v = k + 6 * i) (fun (r : Int) => r = k + 6 * l.length) (by simp) (fun i v next hi hv hn => ?_) (fun v hv => hv)
  subst hv
  rw [h2 i hi]
  have e2 : k + 6 * (i : Int) + 1 + 1 = k + 6 * i + 2 := by omega
  have e3 : k + 6 * (i : Int) + 2 + 1 = k + 6 * i + 3 := by omega
  have e4 : k + 6 * (i : Int) + 3 + 1 = k + 6 * i + 4 := by omega
  have e5 : k + 6 * (i : Int) + 4 + 1 = k + 6 * i + 5 := by omega
  simp only [e2, e3, e4, e5, decide_true, Bool.not_true, cond_false, BEq.rfl]
  exact hn _ (by omega)
theorem held_unions (l : List Union) (k : Int) : heldUnionS (markUnionS l k).2 k = k + 4 * l.length := by
  obtain ⟨h1, h2⟩ := markUnionS_get l k
  unfold heldUnionS
  rw [h1]
  refine loopN_to (fun i (v : Int) => v = k + 4 * i) (fun (r : Int) => r = k + 4 * l.length) (by simp) (fun i v next hi hv hn => ?_) (fun v hv => hv)
  subst hv
  rw [h2 i hi]
  have e2 : k + 4 * (i : Int) + 1 + 1 = k + 4 * i + 2 := by omega
  have e3 : k + 4 * (i : Int) + 2 + 1 = k + 4 * i + 3 := by omega
  simp only [e2, e3, decide_true, Bool.not_true, cond_false]
  exact hn _ (by omega)
end Go.Proofs.Ytaooopgdcneohab
