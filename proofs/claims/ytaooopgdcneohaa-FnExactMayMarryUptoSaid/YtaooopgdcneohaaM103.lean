import Derived.Test.YtaooopgdcneohaaV103
set_option maxHeartbeats 4000000
set_option linter.unusedSimpArgs false
set_option linter.unusedVariables false
namespace Go.Proofs.Ytaooopgdcneohaa
open Go Go.Lite Go.Proofs
theorem imp_eq (x : Family) (l : Law) (p q y : Int) : implImp x l p q y = specImp x l p q y := by
  unfold implImp specImp
  rw [has_law]
  cases h : (((!(specIsLaw l)) || (!(l1Has x p))) || (!(l1Has x q)))
  · obtain ⟨h1, h2, h3, _⟩ := imp_pre h
    simp only [cond_false]
    exact imp_core h1 h2 h3 l y
  · rfl
theorem specImp_of {x : Family} {l : Law} {p q y : Int} (h : (((!(specIsLaw l)) || (!(l1Has x p))) || (!(l1Has x q))) = false) : specImp x l p q y = impediments x l p q y := by
  obtain ⟨h1, h2, h3, _⟩ := imp_pre h
  unfold specImp
  rw [h]
  exact (imp_core h1 h2 h3 l y).symm
theorem specImp_len (x : Family) (l : Law) (p q y : Int) : (specImp x l p q y).length ≤ 13 := by
  unfold specImp
  refine cond_both (p := fun (r : List Int) => r.length ≤ 13) (fun _ => by simp) (fun _ => ?_)
  have := l3Listed_len (l9Bars x l p q y)
  rw [l9Bars_len] at this
  exact this
theorem par_pre {x : Family} {l : Law} {p : Int} (h : ((!(specIsLaw l)) || (!(l1Has x p))) = false) : specIsFamily x = true ∧ (0 ≤ p ∧ p < x.people.length) ∧ 0 ≤ l.age ∧ l.age ≤ 99 := by
  simp only [or_f_iff, not_f_iff, l1Has_iff] at h
  exact ⟨h.2.2, h.2.1, specIsLaw_age h.1⟩
theorem has_law1 (x : Family) (l : Law) (p : Int) : ((!(implHas x [p])) || (!(implIsLaw l))) = ((!(specIsLaw l)) || (!(l1Has x p))) := by
  rw [isLaw_eq, has1_eq]
  cases l1Has x p <;> cases specIsLaw l <;> rfl
theorem par_pre2 {x : Family} {l : Law} {p : Int} (h : ((!(implHas x [p])) || (!(implIsLaw l))) = false) : specIsFamily x = true ∧ (0 ≤ p ∧ p < x.people.length) ∧ 0 ≤ l.age ∧ l.age ≤ 99 := par_pre (by rw [← has_law1]; exact h)
theorem impediments_len {x : Family} (hf : specIsFamily x = true) {p q : Int} (hp : 0 ≤ p ∧ p < x.people.length) (hq : 0 ≤ q ∧ q < x.people.length) (l : Law) (y : Int) : (impediments x l p q y).length ≤ 13 := by
  rw [imp_core hf hp hq]
  have := l3Listed_len (l9Bars x l p q y)
  rw [l9Bars_len] at this
  exact this
end Go.Proofs.Ytaooopgdcneohaa
