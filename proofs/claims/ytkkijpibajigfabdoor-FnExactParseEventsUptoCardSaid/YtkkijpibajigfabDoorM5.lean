import Derived.Test.YtkkijpibajigfabDoorV5
set_option maxHeartbeats 4000000
set_option linter.unusedSimpArgs false
set_option linter.unusedVariables false
namespace Go.Proofs.YtkkijpibajigfabDoor
open Go Go.Lite Go.Proofs
theorem parentFits_iff (l : List Person) (i q s d : Int) : parentFits l i q s d = true ↔ q = -1 ∨ 0 ≤ q ∧ q < i ∧ (l.getD q.toNat default).sex = s ∧ (l.getD q.toNat default).born < (l.getD i.toNat default).born ∧
    ((l.getD q.toNat default).died = -1 ∨ (l.getD i.toNat default).born ≤ IntKind.wrap .i64 ((l.getD q.toNat default).died + d)) := by
  simp only [parentFits, cond_f_iff, cond_t_iff, or_f_iff, Bool.and_eq_true, Bool.or_eq_true, decide_eq_true_eq, decide_eq_false_iff_not, not_f_iff, Int.not_lt, Int.not_le, and_assoc]
theorem parentFits_eq (x : Family) (i q s d : Int) : parentFits x.people i q s d = l1Parent x i q s d := by
  rw [Bool.eq_iff_iff, parentFits_iff, l1Parent_iff]
theorem parentFits_lt2 {l : List Person} {k : Nat} (h : parentFits l k (l.getD k default).father 1 1 = true ∧ parentFits l k (l.getD k default).mother 2 0 = true) : (l.getD k default).father < k ∧ (l.getD k default).mother < k := by
  rw [parentFits_iff, parentFits_iff] at h
  omega
end Go.Proofs.YtkkijpibajigfabDoor
