import Derived.Test.YtanpfncfphpddabV22
set_option maxHeartbeats 4000000
set_option linter.unusedSimpArgs false
set_option linter.unusedVariables false
namespace Go.Proofs.Ytanpfncfphpddab
open Go Go.Lite Go.Proofs
theorem implCommon_eq (x : Family) (a b : Int) : implCommon x a b = specCommon x a b := by
  unfold implCommon
  cases h : implHas x [a, b]
  · simp only [Bool.not_false, cond_true]
    rw [specCommon_no fun hh => by rw [(implHas2 x a b).2 hh] at h; cases h]
  · obtain ⟨h1, h2, h3⟩ := (implHas2 x a b).1 h
    simp only [Bool.not_true, cond_false]
    rw [specCommon_of h1 h2 h3, commonAncestors_eq x a b (isFamily_par x h1) h2 h3]
theorem isAncestor_eq {x : Family} (hf : specIsFamily x = true) {q p : Int} (hp : 0 ≤ p ∧ p < x.people.length) : isAncestor x q p = decide (0 < (l8Up x p).getD q.toNat default) := by
  unfold isAncestor
  rw [stepsUp_eq x p (isFamily_par x hf) hp]
theorem has1_eq (x : Family) (p : Int) : implHas x [p] = l1Has x p := by
  rw [Bool.eq_iff_iff, implHas1, l1Has_iff]; exact and_comm
theorem ancestors_eq (x : Family) (p : Int) : implAncestors x p = specAncestors x p := by
  unfold implAncestors specAncestors
  rw [has1_eq]
  cases h : l1Has x p
  · rfl
  · have h := (l1Has_iff x p).1 h
    rw [stepsUp_eq x p (isFamily_par x h.2) h.1]
theorem descendants_eq (x : Family) (p : Int) : implDescendants x p = specDescendants x p := by
  unfold implDescendants specDescendants
  rw [has1_eq]
  cases h : l1Has x p
  · rfl
  · have h := (l1Has_iff x p).1 h
    simp only [Bool.not_true, cond_false]
    refine loopN_rel0 (fun i (v u : List Int) => v = u) Eq rfl (fun i v u n1 n2 hi hv hn => ?_) (fun v u hv => hv)
    subst hv
    rw [isAncestor_eq h.2 ⟨by omega, by omega⟩]
    cases decide (0 < (l8Up x (i : Int)).getD p.toNat default)
    · exact hn _ _ rfl
    · exact hn _ _ rfl
theorem filterLoop_len {n : Nat} {p : Nat → Bool} {f : Nat → Int} : (loopN (fun i (v : List Int) next => bif p i then next (v ++ [f i]) else next v) (fun v => v) n 0 []).length ≤ n :=
  loopN_to (fun i (v : List Int) => v.length ≤ i) (fun (r : List Int) => r.length ≤ n) (by simp) (fun i v next hi hv hn => cond_both (p := fun (r : List Int) => r.length ≤ n) (fun _ => hn _ (by simp; omega)) (fun _ => hn _ (by omega))) (fun v hv => hv)
theorem specAncestors_len (x : Family) (p : Int) : (specAncestors x p).length ≤ x.people.length := by
  unfold specAncestors
  refine cond_both (p := fun (r : List Int) => r.length ≤ x.people.length) (fun _ => by simp) (fun _ => ?_)
  rw [← l8Up_len x p]; exact filterLoop_len
theorem specDescendants_len (x : Family) (p : Int) : (specDescendants x p).length ≤ x.people.length := by
  unfold specDescendants
  exact cond_both (p := fun (r : List Int) => r.length ≤ x.people.length) (fun _ => by simp) (fun _ => filterLoop_len)
theorem specNearest_len (x : Family) (a b : Int) : (specNearest x a b).length ≤ x.people.length := by
  refine Nat.le_trans ?_ (specCommon_len x a b)
  unfold specNearest
  refine loopN_to (fun i (v : List Int) => v.length ≤ i) (fun (r : List Int) => r.length ≤ (specCommon x a b).length) (by simp) (fun i v next hi hv hn => ?_) (fun v hv => hv)
  exact loopN_to (fun _ (_ : Bool) => True) (fun (r : List Int) => r.length ≤ (specCommon x a b).length) trivial (fun j u m hj _ hm => hm _ trivial) (fun u _ => cond_both (p := fun (r : List Int) => r.length ≤ (specCommon x a b).length) (fun _ => hn _ (by simp; omega)) (fun _ => hn _ (by omega)))
theorem implAncestors_len (x : Family) (p : Int) : (implAncestors x p).length ≤ x.people.length := by rw [ancestors_eq]; exact specAncestors_len x p
theorem implDescendants_len (x : Family) (p : Int) : (implDescendants x p).length ≤ x.people.length := by rw [descendants_eq]; exact specDescendants_len x p
theorem implCommon_len (x : Family) (a b : Int) : (implCommon x a b).length ≤ x.people.length := by rw [implCommon_eq]; exact specCommon_len x a b
end Go.Proofs.Ytanpfncfphpddab
