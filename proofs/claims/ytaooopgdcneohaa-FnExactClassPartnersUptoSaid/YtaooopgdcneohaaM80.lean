import Derived.Test.YtaooopgdcneohaaV80
set_option maxHeartbeats 4000000
set_option linter.unusedSimpArgs false
set_option linter.unusedVariables false
namespace Go.Proofs.Ytaooopgdcneohaa
open Go Go.Lite Go.Proofs
theorem loopN_fill {α β : Type} (a d : α) (k : List α → β) (n : Nat) : loopN (fun i (v : List α) next => next (v.set i a)) k n 0 (List.replicate n d) = k (List.replicate n a) := by
  have : ∀ (m i : Nat) (l : List α), i + m = n → l.length = n → (∀ j, j < i → l[j]? = some a) → loopN (fun i (v : List α) next => next (v.set i a)) k m i l = k (List.replicate n a) := by
    intro m
    induction m with
    | zero =>
      intro i l h1 h2 h3
      simp only [loopN]
      congr 1
      apply List.ext_getElem?
      intro j
      by_cases hj : j < n
      · rw [h3 j (by omega), List.getElem?_replicate, if_pos hj]
      · rw [List.getElem?_eq_none (by omega), List.getElem?_eq_none (by simp; omega)]
    | succ m ih =>
      intro i l h1 h2 h3
      simp only [loopN]
      refine ih (i + 1) _ (by omega) (by simp [h2]) fun j hj => ?_
      by_cases e : j = i
      · subst e; rw [List.getElem?_set_self (by omega)]
      · rw [List.getElem?_set_ne (Ne.symm e)]; exact h3 j (by omega)
  exact this n 0 _ (by omega) (by simp) fun j hj => absurd hj (Nat.not_lt_zero _)
/-- The two tests of a permutation agree. -/
theorem perm_eq (p : List Int) : implIsPerm p = specIsPerm p := by
  unfold implIsPerm specIsPerm l1Inverse
  rw [show ((p.length : Nat) : Int).toNat = p.length from Int.toNat_natCast _, loopN_fill]
  simp only [decide_true, Bool.not_true, cond_false]
  refine loopN_rel0 (fun i (v : List Bool) (u : List Int) => v.length = p.length ∧ u.length = p.length ∧ ∀ j, j < p.length → v.getD j default = decide (0 ≤ u.getD j default)) (fun (a : Bool) (b : List Int × Bool) => a = b.2) ⟨by simp, by simp, fun j hj => ?_⟩ (fun i v u n1 n2 hi hr hn => ?_) (fun v u hr => rfl)
  · rw [getD_rep, getD_rep, if_pos hj, if_pos hj]; rfl
  · obtain ⟨h1, h2, h3⟩ := hr
    cases c1 : decide (p.getD i default < 0)
    · cases c2 : decide (((p.length : Nat) : Int) ≤ p.getD i default)
      · have c1 := of_decide_eq_false c1
        have c2 := of_decide_eq_false c2
        have h4 := h3 (p.getD i default).toNat (by omega)
        rw [h4]
        cases c3 : decide (0 ≤ u.getD (p.getD i default).toNat default)
        · simp only [Bool.or_false, cond_false]
          refine hn _ _ ⟨by simp [h1], by simp [h2], fun j hj => ?_⟩
          rw [getD_set, getD_set]
          by_cases e : j = (p.getD i default).toNat
          · rw [if_pos ⟨e, by omega⟩, if_pos ⟨e, by omega⟩]
            simp
          · rw [if_neg (by omega), if_neg (by omega)]; exact h3 j hj
        · simp
      · simp
    · simp
theorem classes_eq (c : Classes) : implIsClasses c = specIsClasses c := by
  unfold implIsClasses specIsClasses l1In
  rw [perm_eq, perm_eq]
  congr 3
  rw [Bool.eq_iff_iff]
  simp only [decide_eq_true_eq]
  omega
theorem given_eq (x : Family) (c : Classes) (g : List Int) (l : Int) : areGiven x c g l = l7Given x c g l := by
  unfold areGiven l7Given
  rw [isFamily_eq, classes_eq]
  congr 1
  refine loopN_rel0 (fun i (v u : Unit) => True) Eq trivial (fun i v u n1 n2 hi hr hn => ?_) (fun v u hr => rfl)
  have e : ((decide (g.getD i default < l)) || decide (((c.wife.length : Nat) : Int) ≤ g.getD i default)) = !(l1In (g.getD i default) l (((c.wife.length : Nat) : Int) - 1)) := by
    rw [Bool.eq_iff_iff]
    simp only [l1In, Bool.or_eq_true, decide_eq_true_eq, Bool.not_eq_true', Bool.and_eq_false_iff, decide_eq_false_iff_not]
    omega
  rw [e]
  rw [hn () () trivial]
theorem l7Given_iff (x : Family) (c : Classes) (g : List Int) (l : Int) : l7Given x c g l = true ↔ specIsFamily x = true ∧ specIsClasses c = true ∧ g.length = x.people.length ∧ ∀ j, j < g.length → l ≤ g.getD j default ∧ g.getD j default < c.wife.length := by
  simp only [l7Given, cond_f_iff, or_f_iff, loopN_all, not_f_iff, not_t_iff, l1In, Bool.and_eq_true, decide_eq_true_eq, and_true, and_assoc]
  constructor
  · rintro ⟨h1, h2, h3, h4⟩; exact ⟨h1, h2, by omega, fun j hj => ⟨(h4 j hj).1, by have := (h4 j hj).2; omega⟩⟩
  · rintro ⟨h1, h2, h3, h4⟩; exact ⟨h1, h2, by omega, fun j hj => ⟨(h4 j hj).1, by have := (h4 j hj).2; omega⟩⟩
theorem cp_facts {x : Family} {c : Classes} {g : List Int} {p : Int} (h : ((!(l7Given x c g 0)) || (!(l1Has x p))) = false) : (specIsFamily x = true ∧ x.people.length ≤ 40 ∧ g.length = x.people.length) ∧ ((0 ≤ p ∧ p < x.people.length) ∧ 0 ≤ g.getD p.toNat default ∧ g.getD p.toNat default < c.wife.length) ∧
    ∀ i, i < x.people.length → 0 ≤ g.getD i default ∧ g.getD i default < c.wife.length := by
  simp only [or_f_iff, not_f_iff, l7Given_iff, l1Has_iff] at h
  obtain ⟨⟨h1, h2, h3, h4⟩, h5, _⟩ := h
  exact ⟨⟨h1, (fam_n h1).1, h3⟩, ⟨h5, h4 _ (by omega)⟩, fun i hi => h4 i (by omega)⟩
theorem has1_l1 (x : Family) (p : Int) : implHas x [p] = l1Has x p := by
  rw [Bool.eq_iff_iff, implHas1, l1Has_iff]; exact and_comm
theorem cp_facts2 {x : Family} {c : Classes} {g : List Int} {p : Int} (h : ((!(implHas x [p])) || (!(areGiven x c g 0))) = false) : (specIsFamily x = true ∧ x.people.length ≤ 40 ∧ g.length = x.people.length) ∧ ((0 ≤ p ∧ p < x.people.length) ∧ 0 ≤ g.getD p.toNat default ∧ g.getD p.toNat default < c.wife.length) ∧
    ∀ i, i < x.people.length → 0 ≤ g.getD i default ∧ g.getD i default < c.wife.length := cp_facts (by rw [given_eq, has1_l1, Bool.or_comm] at h; exact h)
end Go.Proofs.Ytaooopgdcneohaa
