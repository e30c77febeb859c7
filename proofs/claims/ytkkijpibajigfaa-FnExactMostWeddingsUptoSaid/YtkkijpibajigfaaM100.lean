import Derived.Test.YtkkijpibajigfaaV100
set_option maxHeartbeats 4000000
set_option linter.unusedSimpArgs false
set_option linter.unusedVariables false
namespace Go.Proofs.Ytkkijpibajigfaa
open Go Go.Lite Go.Proofs
theorem up_lt {x : Family} (hf : specIsFamily x = true) {sex p : Int} (hp : 0 ≤ p ∧ p < x.people.length) : up x p sex < p := by
  have := fam_p hf (k := p.toNat) (by omega)
  have h1 := this.fa
  have h2 := this.mo
  unfold up
  exact cond_both (p := fun (r : Int) => r < p) (fun _ => by omega) (fun _ => by omega)
theorem par_lt2 {x : Family} (hf : specIsFamily x = true) {p : Int} (hp : 0 ≤ p ∧ p < x.people.length) : (x.people.getD p.toNat default).father < p ∧ (x.people.getD p.toNat default).mother < p := by
  have := fam_p hf (k := p.toNat) (by omega)
  have h1 := this.fa
  have h2 := this.mo
  omega
theorem linkOf_bd {x : Family} (hf : specIsFamily x = true) {a b : Int} (ha : 0 ≤ a ∧ a < x.people.length) (hb : 0 ≤ b ∧ b < x.people.length) : (0 ≤ (linkOf x a b).1 ∧ (linkOf x a b).1 ≤ x.people.length) ∧ 0 ≤ (linkOf x a b).2.1 ∧ (linkOf x a b).2.1 ≤ x.people.length := by
  rw [linkOf_core x a b hf ha hb]
  exact specLinkOf_bd x a b
theorem isLaw_eq (l : Law) : implIsLaw l = specIsLaw l := by
  unfold implIsLaw specIsLaw lawIn l1In
  rw [Bool.eq_iff_iff]
  simp only [Bool.and_eq_true, decide_eq_true_eq]
  omega
theorem specIsLaw_age {l : Law} (h : specIsLaw l = true) : 0 ≤ l.age ∧ l.age ≤ 99 := by
  unfold specIsLaw l1In at h
  simp only [Bool.and_eq_true, decide_eq_true_eq] at h
  omega
end Go.Proofs.Ytkkijpibajigfaa
