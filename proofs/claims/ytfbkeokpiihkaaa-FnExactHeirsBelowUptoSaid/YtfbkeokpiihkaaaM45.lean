import Derived.Test.YtfbkeokpiihkaaaV45
set_option maxHeartbeats 4000000
set_option linter.unusedSimpArgs false
set_option linter.unusedVariables false
namespace Go.Proofs.Ytfbkeokpiihkaaa
open Go Go.Lite Go.Proofs
theorem l1ByAge_mem (x : Family) (l : List Int) (p y : Int) : y ∈ l1ByAge x l p ↔ y = p ∨ y ∈ l := by
  unfold l1ByAge
  refine loopN_to (fun i (v : List Int × Bool) => i ≤ l.length ∧ (y ∈ v.1 ↔ (v.2 = true ∧ y = p) ∨ y ∈ l.take i)) (fun (r : List Int) => y ∈ r ↔ y = p ∨ y ∈ l) ⟨Nat.zero_le _, by simp⟩ (fun i v next hi hv hn => ?_) (fun v hv => ?_)
  · have e : l.take (i + 1) = l.take i ++ [l.getD i default] := by
      rw [List.take_add_one, List.getD_eq_getElem?_getD, List.getElem?_eq_getElem hi]; rfl
    obtain ⟨w, d⟩ := v
    obtain ⟨h1, h2⟩ := hv
    refine cond_both (p := fun (r : List Int) => y ∈ r ↔ y = p ∨ y ∈ l) (fun c => hn _ ⟨hi, ?_⟩) (fun c => hn _ ⟨hi, ?_⟩)
    · simp only [Bool.and_eq_true, not_t_iff] at c
      simp only at h2
      simp only [List.mem_append, List.mem_singleton, h2, c.1, e, Bool.false_eq_true, false_and, false_or, true_and]
      constructor
      · rintro ((h | h) | h)
        · exact .inr (.inl h)
        · exact .inl h
        · exact .inr (.inr h)
      · rintro (h | h | h)
        · exact .inl (.inr h)
        · exact .inl (.inl h)
        · exact .inr h
    · simp only at h2
      simp only [List.mem_append, List.mem_singleton, h2, e, or_assoc]
  · have e : l.take l.length = l := List.take_length
    rw [e] at hv
    refine cond_both (p := fun (r : List Int) => y ∈ r ↔ y = p ∨ y ∈ l) (fun c => ?_) (fun c => ?_)
    · simp only [not_t_iff] at c
      simp only [List.mem_append, List.mem_singleton, hv.2, c, Bool.false_eq_true, false_and, false_or]
      exact Or.comm
    · simp only [not_f_iff] at c
      rw [hv.2, c]; simp
theorem l1ByAge_len (x : Family) (l : List Int) (p : Int) : (l1ByAge x l p).length = l.length + 1 := by
  unfold l1ByAge
  refine loopN_to (fun i (v : List Int × Bool) => v.1.length = i + (bif v.2 then 1 else 0)) (fun (r : List Int) => r.length = l.length + 1) (by simp) (fun i v next hi hv hn => ?_) (fun v hv => ?_)
  · obtain ⟨w, d⟩ := v
    refine cond_both (p := fun (r : List Int) => r.length = l.length + 1) (fun c => hn _ ?_) (fun c => hn _ ?_)
    · simp only [Bool.and_eq_true, not_t_iff] at c
      simp only [c.1, cond_false] at hv
      simp only [List.length_append, List.length_singleton, hv, cond_true]
    · simp only at hv
      simp only [List.length_append, List.length_singleton, hv]
      omega
  · obtain ⟨w, d⟩ := v
    cases d
    · simp only [Bool.not_false, cond_true, List.length_append, List.length_singleton]; simp only [cond_false] at hv; omega
    · simp only [Bool.not_true, cond_false]; simp only [cond_true] at hv; omega
/-- A family in the making: nobody died, births within bounds. -/
def dp (l : List Person) (k : Nat) : Int := (l1Depths ⟨l, []⟩).getD k default
def MkB (l : List Person) : Prop := ∀ k : Nat, k < l.length → (l.getD k default).born ≤ 11 + 30 * dp l k
theorem MkB.nil : MkB [] := fun k hk => absurd hk (Nat.not_lt_zero _)
/-- Some of those of a family in the making have died. -/
structure Dying (l : List Person) (v : List Person) : Prop where
  len : v.length = l.length
  same : ∀ k : Nat, k < l.length → (v.getD k default).name = (l.getD k default).name ∧ (v.getD k default).sex = (l.getD k default).sex ∧ (v.getD k default).father = (l.getD k default).father ∧ (v.getD k default).mother = (l.getD k default).mother ∧ (v.getD k default).born = (l.getD k default).born
  died : ∀ k : Nat, k < l.length → (v.getD k default).died = -1 ∨ (l.getD k default).born ≤ (v.getD k default).died ∧ (v.getD k default).died ≤ 500 ∧ ∀ c : Nat, c < l.length → (l.getD c default).father = k ∨ (l.getD c default).mother = k → (l.getD c default).born ≤ (v.getD k default).died
theorem Dying.set {l v : List Person} (h : Dying l v) {k : Nat} (hk : k < l.length) {y : Int} (h1 : (l.getD k default).born ≤ y ∧ y ≤ 500) (h2 : ∀ c : Nat, c < l.length → (l.getD c default).father = k ∨ (l.getD c default).mother = k → (l.getD c default).born ≤ y) :
    Dying l (v.set k ⟨(v.getD k default).name, (v.getD k default).sex, (v.getD k default).father, (v.getD k default).mother, (v.getD k default).born, y⟩) := by
  refine ⟨by simp [h.len], fun i hi => ?_, fun i hi => ?_⟩
  · rw [getD_set]
    split
    · rename_i e; rw [e.1]; exact h.same k hk
    · exact h.same i hi
  · rw [getD_set]
    split
    · rename_i e; rw [e.1]; exact .inr ⟨h1.1, h1.2, h2⟩
    · exact h.died i hi
end Go.Proofs.Ytfbkeokpiihkaaa
