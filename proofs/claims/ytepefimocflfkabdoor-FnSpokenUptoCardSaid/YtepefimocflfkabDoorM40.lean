import Derived.Test.YtepefimocflfkabDoorM214
set_option maxHeartbeats 4000000
set_option linter.unusedSimpArgs false
set_option linter.unusedVariables false
namespace Go.Proofs.YtepefimocflfkabDoor
open Go Go.Lite Go.Proofs
/-- Numbers that are wrapped fit. -/
theorem wrap_inR (n : Int) : inR .i64 (IntKind.wrap .i64 n) := by
  simp only [inR, IntKind.wrap, IntKind.signed, IntKind.bits]
  simp
  omega
theorem and_small (x m : Int) (k : Nat) (hm : m = k) (hk : k < 9223372036854775808) : 0 ≤ bits .and .i64 x m ∧ bits .and .i64 x m ≤ m := by
  have h1 : (BitVec.ofInt 64 x &&& BitVec.ofInt 64 m).toNat ≤ k := by
    rw [BitVec.toNat_and]
    refine Nat.le_trans Nat.and_le_right ?_
    subst hm
    simp only [BitVec.toNat_ofInt]
    omega
  have e : bits .and .i64 x m = ((BitVec.ofInt 64 x &&& BitVec.ofInt 64 m).toNat : Int) := by
    show IntKind.wrap .i64 _ = _
    exact wrap_of_inR (n := ((BitVec.ofInt 64 x &&& BitVec.ofInt 64 m).toNat : Int)) (by simp only [inR]; omega)
  rw [e]
  omega
theorem getD_byte {l : List Int} (h : ∀ y ∈ l, 0 ≤ y ∧ y ≤ 255) (k : Nat) : 0 ≤ l.getD k default ∧ l.getD k default ≤ 255 := by
  rcases Nat.lt_or_ge k l.length with hk | hk
  · have := h _ (List.getElem_mem hk)
    simpa [List.getD_eq_getElem?_getD, List.getElem?_eq_getElem hk] using this
  · simp [List.getD_eq_getElem?_getD, List.getElem?_eq_none hk]
end Go.Proofs.YtepefimocflfkabDoor
