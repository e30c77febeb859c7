import Derived.Test.YtepefimocflfkabDoorV41
set_option maxHeartbeats 4000000
set_option linter.unusedSimpArgs false
set_option linter.unusedVariables false
namespace Go.Proofs.YtepefimocflfkabDoor
open Go Go.Lite Go.Proofs
theorem l01Below_ok {c : l01Cur} (h : CurOk c) {n : Int} (hn : n ≤ 256) : (0 ≤ (l01Below c n).1 ∧ (l01Below c n).1 ≤ 255 ∧ (0 < n → (l01Below c n).1 < n)) ∧ CurOk ⟨c.b, (l01Below c n).2.1, (l01Below c n).2.2⟩ := by
  unfold l01Below
  refine cond_both (p := fun (r : Int × Int × Int) => (0 ≤ r.1 ∧ r.1 ≤ 255 ∧ (0 < n → r.1 < n)) ∧ CurOk ⟨c.b, r.2.1, r.2.2⟩) (fun c1 => ⟨⟨by simp, by simp, fun h => h⟩, h⟩) (fun c1 => ?_)
  have c1 := of_decide_eq_false c1
  refine cond_both (p := fun (r : Int × Int × Int) => (0 ≤ r.1 ∧ r.1 ≤ 255 ∧ (0 < n → r.1 < n)) ∧ CurOk ⟨c.b, r.2.1, r.2.2⟩) (fun c2 => ⟨?_, (l01Byte_ok h).2⟩) (fun c2 => absurd (of_decide_eq_false c2) (by omega))
  have h1 := (l01Byte_ok h).1
  have e := Int.tmod_eq_emod_of_nonneg (a := (l01Byte c).1) (b := n) h1.1
  have h2 := Int.emod_nonneg (l01Byte c).1 (show n ≠ 0 by omega)
  have h3 := Int.emod_lt_of_pos (l01Byte c).1 (show 0 < n by omega)
  simp only [e]
  omega
end Go.Proofs.YtepefimocflfkabDoor
