import Derived.Test.YtepefimocflfkabDoorM43
set_option maxHeartbeats 4000000
set_option linter.unusedSimpArgs false
set_option linter.unusedVariables false
namespace Go.Proofs.YtepefimocflfkabDoor
open Go Go.Lite Go.Proofs
theorem jn_to {S α : Type} {f : (S → α) → α} {k : S → α} (J : S → Prop) (Q : α → Prop) (h1 : ∀ K : S → α, (∀ v, J v → Q (K v)) → Q (f K)) (h2 : ∀ v, J v → Q (k v)) : Q (jn f k) := h1 k h2
theorem l01New_ok {b : List Int} (hb : ∀ y ∈ b, 0 ≤ y ∧ y ≤ 255) (hx : b.length ≤ 1048576) : CurOk (l01New b) := by
  unfold l01New
  refine loopW_to (fun v => (0 ≤ v.1 ∧ v.1 ≤ 1073741823) ∧ 0 ≤ v.2) (fun v => 4000 - Int.toNat v.2) (fun (r : l01Cur) => CurOk r) (fun v next hv hn => ?_) _ _ (Nat.lt_succ_self _) (by simp only; omega)
  refine cond_both (p := fun (r : l01Cur) => CurOk r) (fun c => hn _ ?_ ?_) (fun _ => ⟨hb, hx, ⟨by simp only; omega, by simp only; omega⟩, by simp only [inR]; omega⟩)
  · exact ⟨and_small _ 1073741823 1073741823 rfl (by omega), by dsimp only; omega⟩
  · simp only [Bool.and_eq_true, decide_eq_true_eq] at c; dsimp only; omega
end Go.Proofs.YtepefimocflfkabDoor
