import Derived.Test.YtaooopgdcneohaaV70
set_option maxHeartbeats 4000000
set_option linter.unusedSimpArgs false
set_option linter.unusedVariables false
namespace Go.Proofs.Ytaooopgdcneohaa
open Go Go.Lite Go.Proofs
/-- WHAT IS KNOWN AT THE END OF A YEAR IS THE SAME BY BOTH WAYS. -/
theorem known_eq (x : Family) (y : Int) : implKnown x y = specKnown x y := by
  unfold implKnown specKnown
  rw [isFamily_eq]
  cases hv : specIsFamily x
  · rfl
  simp only [Bool.not_true, cond_false, jn_bif]
  refine loopN_rel0 (fun i (v u : List Int × List Person) => v.2 = u.2 ∧ v.1.length = x.people.length ∧ u.1.length = i ∧ ∀ k, k < i → (x.people.getD k default).born ≤ y → v.1.getD k default = u.1.getD k default) Eq ⟨rfl, by simp, rfl, fun k hk => absurd hk (Nat.not_lt_zero _)⟩ (fun i v u n1 n2 hi hr hn => ?_) (fun v u hr => ?_)
  · obtain ⟨h1, h2, h3, h4⟩ := hr
    have hp := fam_p hv hi
    rw [h1]
    cases hb : decide (y < (x.people.getD i default).born)
    · have hb := of_decide_eq_false hb
      simp only [cond_false]
      have e1 : ∀ q : Int, 0 ≤ q → q < i → (x.people.getD q.toNat default).born ≤ y → (v.1.set i ((u.2.length : Nat) : Int)).getD q.toNat default = (u.1 ++ [((u.2.length : Nat) : Int)]).getD q.toNat default := fun q h0 hq hy => by
        rw [getD_set, if_neg (by omega), snoc_lt' (by omega)]
        exact h4 _ (by omega) hy
      have e2 : (bif decide (0 ≤ (x.people.getD i default).father) then (v.1.set i ((u.2.length : Nat) : Int)).getD (x.people.getD i default).father.toNat default else (x.people.getD i default).father) = (bif decide (0 ≤ (x.people.getD i default).father) then (u.1 ++ [((u.2.length : Nat) : Int)]).getD (x.people.getD i default).father.toNat default else (x.people.getD i default).father) := by
        cases hc : decide (0 ≤ (x.people.getD i default).father)
        · rfl
        · have hc := of_decide_eq_true hc
          have := hp.fa
          exact e1 _ hc (by omega) (by omega)
      have e3 : (bif decide (0 ≤ (x.people.getD i default).mother) then (v.1.set i ((u.2.length : Nat) : Int)).getD (x.people.getD i default).mother.toNat default else (x.people.getD i default).mother) = (bif decide (0 ≤ (x.people.getD i default).mother) then (u.1 ++ [((u.2.length : Nat) : Int)]).getD (x.people.getD i default).mother.toNat default else (x.people.getD i default).mother) := by
        cases hc : decide (0 ≤ (x.people.getD i default).mother)
        · rfl
        · have hc := of_decide_eq_true hc
          have := hp.mo
          exact e1 _ hc (by omega) (by omega)
      rw [e2, e3]
      have hk : ∀ k, k < i + 1 → (x.people.getD k default).born ≤ y → (v.1.set i ((u.2.length : Nat) : Int)).getD k default = (u.1 ++ [((u.2.length : Nat) : Int)]).getD k default := fun k hk hy => by
        by_cases e : k = i
        · subst e
          rw [getD_set, if_pos ⟨rfl, by omega⟩, snoc_last (by omega)]
        · rw [getD_set, if_neg (by omega), snoc_lt' (by omega)]
          exact h4 _ (by omega) hy
      cases decide (y < (x.people.getD i default).died)
      · exact hn _ _ ⟨rfl, by simp [h2], by simp [h3], hk⟩
      · exact hn _ _ ⟨rfl, by simp [h2], by simp [h3], hk⟩
    · have hb := of_decide_eq_true hb
      simp only [cond_true]
      refine hn _ _ ⟨rfl, h2, by simp [h3], fun k hk hy => ?_⟩
      have e : k ≠ i := fun e => by subst e; omega
      rw [snoc_lt' (by omega)]
      exact h4 _ (by omega) hy
  · obtain ⟨h1, h2, h3, h4⟩ := hr
    refine loopN_rel0 (fun i (v u : List Union) => v = u) Eq rfl (fun i p q n1 n2 hi hr hn => ?_) (fun p q hr => by rw [hr, h1])
    subst hr
    have hu := fam_u hv hi
    cases hb : decide (y < (x.unions.getD i default).from0)
    · have hb := of_decide_eq_false hb
      simp only [cond_false]
      have q1 := hu.man; have q2 := hu.woman; have q3 := hu.from0
      rw [h4 _ (show (x.unions.getD i default).man.toNat < x.people.length by omega) (by omega), h4 _ (show (x.unions.getD i default).woman.toNat < x.people.length by omega) (by omega)]
      exact hn _ _ rfl
    · exact hn _ _ rfl
theorem specKnown_len (x : Family) (y : Int) : (specKnown x y).people.length ≤ 40 ∧ (specKnown x y).unions.length ≤ 60 := by
  unfold specKnown
  refine cond_both (p := fun (r : Family) => r.people.length ≤ 40 ∧ r.unions.length ≤ 60) (fun _ => by simp) (fun hc => ?_)
  have hv : specIsFamily x = true := by simpa using hc
  have hn := fam_n hv
  simp only [jn_bif]
  refine loopN_to (fun i (v : List Int × List Person) => v.2.length ≤ i) (fun (r : Family) => r.people.length ≤ 40 ∧ r.unions.length ≤ 60) (by simp) (fun i v next hi hv hm => ?_) (fun v hv => ?_)
  · refine cond_both (p := fun (r : Family) => r.people.length ≤ 40 ∧ r.unions.length ≤ 60) (fun _ => hm _ (by simp only; omega)) (fun _ => ?_)
    exact cond_both (p := fun (r : Family) => r.people.length ≤ 40 ∧ r.unions.length ≤ 60) (fun _ => hm _ (by simp; omega)) (fun _ => hm _ (by simp; omega))
  · refine loopN_to (fun i (u : List Union) => u.length ≤ i) (fun (r : Family) => r.people.length ≤ 40 ∧ r.unions.length ≤ 60) (by simp) (fun i u next hi hu hm => ?_) (fun u hu => ⟨by simp only; omega, by simp only; omega⟩)
    exact cond_both (p := fun (r : Family) => r.people.length ≤ 40 ∧ r.unions.length ≤ 60) (fun _ => hm _ (by omega)) (fun _ => hm _ (by simp; omega))
end Go.Proofs.Ytaooopgdcneohaa
