import Derived.Test.YtkkijpibajigfabDoorV2
set_option maxHeartbeats 4000000
set_option linter.unusedSimpArgs false
set_option linter.unusedVariables false
namespace Go.Proofs.YtkkijpibajigfabDoor
open Go Go.Lite Go.Proofs
theorem l1Parent_iff (x : Family) (i q s l : Int) : l1Parent x i q s l = true ↔ q = -1 ∨ 0 ≤ q ∧ q < i ∧ (x.people.getD q.toNat default).sex = s ∧ (x.people.getD q.toNat default).born < (x.people.getD i.toNat default).born ∧
    ((x.people.getD q.toNat default).died = -1 ∨ (x.people.getD i.toNat default).born ≤ IntKind.wrap .i64 ((x.people.getD q.toNat default).died + l)) := by
  simp only [l1Parent, cond_f_iff, cond_t_iff, or_f_iff, Bool.and_eq_true, Bool.or_eq_true, decide_eq_true_eq, decide_eq_false_iff_not, not_f_iff, Int.not_lt, Int.not_le, and_assoc]
theorem l1Person_iff (x : Family) (i : Int) : l1Person x i = true ↔ specIsName (x.people.getD i.toNat default).name = true ∧ (1 ≤ (x.people.getD i.toNat default).sex ∧ (x.people.getD i.toNat default).sex ≤ 2) ∧ (0 ≤ (x.people.getD i.toNat default).born ∧ (x.people.getD i.toNat default).born ≤ 9999) ∧
    ((x.people.getD i.toNat default).died = -1 ∨ (x.people.getD i.toNat default).born ≤ (x.people.getD i.toNat default).died ∧ (x.people.getD i.toNat default).died ≤ 9999) ∧ (∀ j, j < i.toNat → (x.people.getD j default).name ≠ (x.people.getD i.toNat default).name) ∧
    l1Parent x i (x.people.getD i.toNat default).father 1 1 = true ∧ l1Parent x i (x.people.getD i.toNat default).mother 2 0 = true := by
  simp only [l1Person, cond_f_iff, or_f_iff, loopN_all, l1In, not_f_iff, and_f_iff, Bool.and_eq_true, decide_eq_true_eq, beq_eq_false_iff_ne, and_assoc, not_t_iff, decide_eq_false_iff_not, Bool.not_eq_true', ← Classical.or_iff_not_imp_left]
theorem l1Person_par (x : Family) (k : Nat) (h : l1Person x k = true) : (x.people.getD k default).father < k ∧ (x.people.getD k default).mother < k := by
  obtain ⟨_, _, _, _, _, h1, h2⟩ := (l1Person_iff x k).1 h
  rw [l1Parent_iff] at h1 h2
  simp only [Int.toNat_natCast] at h1 h2
  omega
end Go.Proofs.YtkkijpibajigfabDoor
