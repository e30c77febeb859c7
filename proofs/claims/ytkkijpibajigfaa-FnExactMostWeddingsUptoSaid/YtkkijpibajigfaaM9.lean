import Derived.Test.YtkkijpibajigfaaV9
set_option maxHeartbeats 4000000
set_option linter.unusedSimpArgs false
set_option linter.unusedVariables false
namespace Go.Proofs.Ytkkijpibajigfaa
open Go Go.Lite Go.Proofs
theorem l8Common_mem (x : Family) (a b : Int) : (l8Common x a b).length ≤ x.people.length ∧ ∀ q ∈ l8Common x a b, 0 ≤ q ∧ q < x.people.length ∧ 0 ≤ (l8Up x a).getD q.toNat default ∧ 0 ≤ (l8Up x b).getD q.toNat default := by
  unfold l8Common
  rw [l8Up_len]
  refine loopN_to (fun i (v : List Int) => v.length ≤ i ∧ ∀ q ∈ v, 0 ≤ q ∧ q < i ∧ 0 ≤ (l8Up x a).getD q.toNat default ∧ 0 ≤ (l8Up x b).getD q.toNat default) (fun (v : List Int) => v.length ≤ x.people.length ∧ ∀ q ∈ v, 0 ≤ q ∧ q < x.people.length ∧ 0 ≤ (l8Up x a).getD q.toNat default ∧ 0 ≤ (l8Up x b).getD q.toNat default) ⟨Nat.le_refl _, fun q hq => by simp at hq⟩ (fun i v next hi hv hn => ?_) (fun v hv => hv)
  have hw : ∀ q ∈ v, 0 ≤ q ∧ q < ((i + 1 : Nat) : Int) ∧ 0 ≤ (l8Up x a).getD q.toNat default ∧ 0 ≤ (l8Up x b).getD q.toNat default := fun q hq => by have := hv.2 q hq; omega
  refine cond_both (p := fun (v : List Int) => v.length ≤ x.people.length ∧ ∀ q ∈ v, 0 ≤ q ∧ q < x.people.length ∧ 0 ≤ (l8Up x a).getD q.toNat default ∧ 0 ≤ (l8Up x b).getD q.toNat default) (fun c => hn _ ⟨by simp; exact hv.1, fun q hq => ?_⟩) (fun _ => hn _ ⟨Nat.le_succ_of_le hv.1, hw⟩)
  simp only [Bool.and_eq_true, decide_eq_true_eq] at c
  rcases List.mem_append.1 hq with hq | hq
  · exact hw q hq
  · rw [List.mem_singleton.1 hq]; simp only [Int.toNat_natCast]; omega
theorem commonAncestors_eq (x : Family) (a b : Int) (hp : Par x) (ha : 0 ≤ a ∧ a < x.people.length) (hb : 0 ≤ b ∧ b < x.people.length) : commonAncestors x a b = l8Common x a b := by
  unfold commonAncestors l8Common
  rw [stepsUp_eq x a hp ha, stepsUp_eq x b hp hb, l8Up_len]
theorem specCommon_of {x : Family} {a b : Int} (hf : specIsFamily x = true) (ha : 0 ≤ a ∧ a < x.people.length) (hb : 0 ≤ b ∧ b < x.people.length) : specCommon x a b = l8Common x a b := by
  unfold specCommon
  rw [(l1Has_iff x a).2 ⟨ha, hf⟩, (l1Has_iff x b).2 ⟨hb, hf⟩]
  rfl
theorem specCommon_no {x : Family} {a b : Int} (h : ¬ (specIsFamily x = true ∧ (0 ≤ a ∧ a < x.people.length) ∧ 0 ≤ b ∧ b < x.people.length)) : specCommon x a b = [] := by
  unfold specCommon
  cases h1 : l1Has x a
  · rfl
  · cases h2 : l1Has x b
    · rfl
    · have h1 := (l1Has_iff x a).1 h1
      have h2 := (l1Has_iff x b).1 h2
      exact absurd ⟨h1.2, h1.1, h2.1⟩ h
theorem specCommon_len (x : Family) (a b : Int) : (specCommon x a b).length ≤ x.people.length := by
  unfold specCommon
  exact cond_both (p := fun (v : List Int) => v.length ≤ x.people.length) (fun _ => Nat.zero_le _) (fun _ => (l8Common_mem x a b).1)
theorem specCommon_get {x : Family} {a b : Int} {k : Nat} (hk : k < (specCommon x a b).length) : (specIsFamily x = true ∧ (0 ≤ a ∧ a < x.people.length) ∧ 0 ≤ b ∧ b < x.people.length) ∧ 0 ≤ (specCommon x a b).getD k default ∧ (specCommon x a b).getD k default < x.people.length ∧
    0 ≤ (l8Up x a).getD ((specCommon x a b).getD k default).toNat default ∧ 0 ≤ (l8Up x b).getD ((specCommon x a b).getD k default).toNat default := by
  by_cases h : specIsFamily x = true ∧ (0 ≤ a ∧ a < x.people.length) ∧ 0 ≤ b ∧ b < x.people.length
  · refine ⟨h, ?_⟩
    rw [specCommon_of h.1 h.2.1 h.2.2] at hk ⊢
    exact (l8Common_mem x a b).2 _ (getD_mem hk)
  · rw [specCommon_no h] at hk; exact absurd hk (Nat.not_lt_zero _)
theorem common_get {x : Family} {a b : Int} (hp : Par x) (ha : 0 ≤ a ∧ a < x.people.length) (hb : 0 ≤ b ∧ b < x.people.length) {k : Nat} (hk : k < (commonAncestors x a b).length) : 0 ≤ (commonAncestors x a b).getD k default ∧ (commonAncestors x a b).getD k default < x.people.length ∧
    0 ≤ (stepsUp x a).getD ((commonAncestors x a b).getD k default).toNat default ∧ 0 ≤ (stepsUp x b).getD ((commonAncestors x a b).getD k default).toNat default := by
  rw [commonAncestors_eq x a b hp ha hb] at hk ⊢
  rw [stepsUp_eq x a hp ha, stepsUp_eq x b hp hb]
  exact (l8Common_mem x a b).2 _ (getD_mem hk)
theorem common_len {x : Family} {a b : Int} (hp : Par x) (ha : 0 ≤ a ∧ a < x.people.length) (hb : 0 ≤ b ∧ b < x.people.length) : (commonAncestors x a b).length ≤ x.people.length := by
  rw [commonAncestors_eq x a b hp ha hb]; exact (l8Common_mem x a b).1
end Go.Proofs.Ytkkijpibajigfaa
