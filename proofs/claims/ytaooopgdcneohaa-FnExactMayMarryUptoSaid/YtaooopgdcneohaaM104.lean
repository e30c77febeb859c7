import Derived.Test.YtaooopgdcneohaaV104
set_option maxHeartbeats 4000000
set_option linter.unusedSimpArgs false
set_option linter.unusedVariables false
namespace Go.Proofs.Ytaooopgdcneohaa
open Go Go.Lite Go.Proofs
theorem may_eq (x : Family) (l : Law) (p q y : Int) : implMay x l p q y = specMay x l p q y := by
  have e : ((implHas x [p, q]) && (implIsLaw l)) = (((specIsLaw l) && (l1Has x p)) && (l1Has x q)) := by
    rw [isLaw_eq, has2_eq]; cases l1Has x p <;> cases l1Has x q <;> cases specIsLaw l <;> rfl
  unfold implMay specMay
  rw [e]
  cases h : (((specIsLaw l) && (l1Has x p)) && (l1Has x q))
  · rfl
  · rw [specImp_of]
    simp only [Bool.and_eq_true] at h
    rw [h.1.1, h.1.2, h.2]; rfl
theorem may_of {x : Family} {l : Law} {p q : Int} (hl : specIsLaw l = true) (hf : specIsFamily x = true) (hp : 0 ≤ p ∧ p < x.people.length) (hq : 0 ≤ q ∧ q < x.people.length) (y : Int) : specMay x l p q y = decide ((((impediments x l p q y).length : Nat) : Int) = 0) := by
  have h1 := (l1Has_iff x p).2 ⟨hp, hf⟩
  have h2 := (l1Has_iff x q).2 ⟨hq, hf⟩
  unfold specMay
  rw [specImp_of (by rw [hl, h1, h2]; rfl), hl, h1, h2]
  rfl
theorem partners_eq (x : Family) (l : Law) (p y : Int) : implPartners x l p y = specPartners x l p y := by
  unfold implPartners specPartners
  rw [has_law1]
  cases h : ((!(specIsLaw l)) || (!(l1Has x p)))
  · obtain ⟨hf, hp, _⟩ := par_pre h
    have hl : specIsLaw l = true := by simp only [or_f_iff, not_f_iff] at h; exact h.1
    simp only [cond_false]
    refine loopN_rel0 (fun i v u => v = u) Eq rfl (fun i v u n1 n2 hi hr hn => ?_) (fun v u hr => hr)
    have hq : 0 ≤ ((i : Nat) : Int) ∧ ((i : Nat) : Int) < x.people.length := by omega
    have hs := (fam_p hf (k := p.toNat) (by omega)).sex
    rw [may_of hl hf hp hq, may_of hl hf hq hp]
    by_cases c : (x.people.getD p.toNat default).sex = 2
    · rw [decide_eq_true c, decide_eq_false (show ¬ (x.people.getD p.toNat default).sex = 1 by omega)]
      simp only [cond_true, Bool.false_and, Bool.false_or, Bool.true_and]
      cases decide ((((impediments x l ((i : Nat) : Int) p y).length : Nat) : Int) = 0)
      · exact hn _ _ hr
      · exact hn _ _ (by rw [hr])
    · rw [decide_eq_false c, decide_eq_true (show (x.people.getD p.toNat default).sex = 1 by omega)]
      simp only [cond_false, Bool.false_and, Bool.or_false, Bool.true_and]
      cases decide ((((impediments x l p ((i : Nat) : Int) y).length : Nat) : Int) = 0)
      · exact hn _ _ hr
      · exact hn _ _ (by rw [hr])
  · rfl
theorem specPartners_len (x : Family) (l : Law) (p y : Int) : (specPartners x l p y).length ≤ x.people.length := by
  unfold specPartners
  exact cond_both (p := fun (r : List Int) => r.length ≤ x.people.length) (fun _ => by simp) (fun _ => filterLoop_len)
end Go.Proofs.Ytaooopgdcneohaa
