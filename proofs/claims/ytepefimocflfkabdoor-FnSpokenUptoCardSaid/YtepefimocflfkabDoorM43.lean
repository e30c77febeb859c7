import Derived.Test.YtepefimocflfkabDoorV42
set_option maxHeartbeats 4000000
set_option linter.unusedSimpArgs false
set_option linter.unusedVariables false
namespace Go.Proofs.YtepefimocflfkabDoor
open Go Go.Lite Go.Proofs
theorem l01Once_ok {c : l01Cur} (h : CurOk c) {n : Int} (hn : n ≤ 256) : CurOk ⟨c.b, (l01Once c n).2.1, (l01Once c n).2.2⟩ := by
  unfold l01Once
  exact (l01Below_ok h hn).2
theorem l01Int_ok {c : l01Cur} (h : CurOk c) {l : List Int} (hl : 0 < l.length ∧ l.length ≤ 256) : (l01Int c l).1 ∈ l ∧ CurOk ⟨c.b, (l01Int c l).2.1, (l01Int c l).2.2⟩ := by
  have h9 := l01Below_ok h (n := ((l.length : Nat) : Int)) (by omega)
  unfold l01Int
  exact ⟨getD_mem (by have := h9.1.2.2 (by omega); omega), h9.2⟩
end Go.Proofs.YtepefimocflfkabDoor
