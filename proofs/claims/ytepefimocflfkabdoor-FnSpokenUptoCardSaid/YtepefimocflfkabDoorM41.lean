import Derived.Test.YtepefimocflfkabDoorV40
set_option maxHeartbeats 4000000
set_option linter.unusedSimpArgs false
set_option linter.unusedVariables false
namespace Go.Proofs.YtepefimocflfkabDoor
open Go Go.Lite Go.Proofs
theorem byte_bd (x : Int) : 0 ≤ bits .and .i64 x 255 ∧ bits .and .i64 x 255 ≤ 255 := and_small x 255 255 rfl (by omega)
theorem l01Byte_ok {c : l01Cur} (h : CurOk c) : (0 ≤ (l01Byte c).1 ∧ (l01Byte c).1 ≤ 255) ∧ CurOk ⟨c.b, (l01Byte c).2.1, (l01Byte c).2.2⟩ := by
  unfold l01Byte
  refine cond_both (p := fun (r : Int × Int × Int) => (0 ≤ r.1 ∧ r.1 ≤ 255) ∧ CurOk ⟨c.b, r.2.1, r.2.2⟩) (fun c1 => ⟨byte_bd _, h.mk' ?_ (wrap_inR _)⟩) (fun _ => ⟨byte_bd _, h.mk' h.pos (wrap_inR _)⟩)
  have := h.pos; have := of_decide_eq_true c1
  simp only; omega
end Go.Proofs.YtepefimocflfkabDoor
