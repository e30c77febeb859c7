import Derived.Test.YtanpfncfphpddabV22
set_option maxHeartbeats 4000000
set_option linter.unusedSimpArgs false
set_option linter.unusedVariables false
namespace Go.Proofs.Ytanpfncfphpddab
open Go Go.Lite Go.Proofs
theorem implCommon_eq (x : Family) (a b : Int) : implCommon x a b = specCommon x a b := by
  unfold implCommon
  cases h : implHas x [a, b]
  · simp only [Bool.not_false, cond_true]
    rw [specCommon_no fun hh => by rw [(implHas2 x a b).2 hh] at h; cases h]
  · obtain ⟨h1, h2, h3⟩ := (implHas2 x a b).1 h
    simp only [Bool.not_true, cond_false]
    rw [specCommon_of h1 h2 h3, commonAncestors_eq x a b (isFamily_par x h1) h2 h3]
theorem isAncestor_eq {x : Family} (hf : specIsFamily x = true) {q p : Int} (hp : 0 ≤ p ∧ p < x.people.length) : isAncestor x q p = decide (0 < (l8Up x p).getD q.toNat default) := by
  unfold isAncestor
  rw [stepsUp_eq x p (isFamily_par x hf) hp]
theorem has1_eq (x : Family) (p : Int) : implHas x [p] = l1Has x p := by
  rw [Bool.eq_iff_iff, implHas1, l1Has_iff]; exact and_comm
theorem ancestors_eq (x : Family) (p : Int) : implAncestors x p = specAncestors x p := by
  unfold implAncestors specAncestors
  rw [has1_eq]
  cases h : l1Has x p
  · rfl
  · have h := (l1Has_iff x p).1 h
    rw [stepsUp_eq x p (isFamily_par x h.2) h.1]
theorem descendants_eq (x : Family) (p : Int) : implDescendants x p = specDescendants x p := by
  unfold implDescendants specDescendants
  rw [has1_eq]
  cases h : l1Has x p
  · rfl
  · have h := (l1Has_iff x p).1 h
    simp only [Bool.not_true, cond_false]
    refine loopN_rel0 (fun i (v u : List Int) => v = u) Eq rfl (fun i v u n1 n2 hi hv hn => ?_) (fun v u hv => hv)
    subst hv
    rw [isAncestor_eq h.2 ⟨by omega, by omega⟩]
    cases decide (0 < (l8Up x (i : Int)).getD p.toNat default)
    · exact hn _ _ rfl
    · exact hn _ _ rfl
theorem filterLoop_len {n : Nat} {p : Nat → Bool} {f : Nat → Int} : (loopN (fun i (v : List Int) next => bif p i then next (v ++ [f i]) else next v) (fun v => v) n 0 []).length ≤ n :=
  loopN_to (fun i (v : List Int) => v.length ≤ i) (fun (r : List Int) => r.length ≤ n) (by simp) (fun i v next hi hv hn => cond_both (p := fun (r : List Int) => r.length ≤ n) (fun _ => hn _ (by simp; omega)) (fun _ => hn _ (by omega))) (fun v hv => hv)
theorem specAncestors_len (x : Family) (p : Int) : (specAncestors x p).length ≤ x.people.length := by
  unfold specAncestors
  refine cond_both (p := fun (r : List Int) => r.length ≤ x.people.length) (fun _ => by simp) (fun _ => ?_)
  rw [← l8Up_len x p]; exact filterLoop_len
theorem specDescendants_len (x : Family) (p : Int) : (specDescendants x p).length ≤ x.people.length := by
  unfold specDescendants
  exact cond_both (p := fun (r : List Int) => r.length ≤ x.people.length) (fun _ => by simp) (fun _ => filterLoop_len)
theorem specNearest_len (x : Family) (a b : Int) : (specNearest x a b).length ≤ x.people.length := by
  refine Nat.le_trans ?_ (specCommon_len x a b)
  unfold specNearest
  refine loopN_to (fun i (v : List Int) => v.length ≤ i) (fun (r : List Int) => r.length ≤ (specCommon x a b).length) (by simp) (fun i v next hi hv hn => ?_) (fun v hv => hv)
  exact loopN_to (fun _ (_ : Bool) => True) (fun (r : List Int) => r.length ≤ (specCommon x a b).length) trivial (fun j u m hj _ hm => hm _ trivial) (fun u _ => cond_both (p := fun (r : List Int) => r.length ≤ (specCommon x a b).length) (fun _ => hn _ (by simp; omega)) (fun _ => hn _ (by omega)))
theorem implAncestors_len (x : Family) (p : Int) : (implAncestors x p).length ≤ x.people.length := by rw [ancestors_eq]; exact specAncestors_len x p
theorem implDescendants_len (x : Family) (p : Int) : (implDescendants x p).length ≤ x.people.length := by rw [descendants_eq]; exact specDescendants_len x p
theorem implCommon_len (x : Family) (a b : Int) : (implCommon x a b).length ≤ x.people.length := by rw [implCommon_eq]; exact specCommon_len x a b
def C23 (R : (List Int)) : LV × List (Nat × BC) := (.own 0, [(0, .arr 1 R.length (rowOf (cInt .i64) R))])
def implNearest (x0 : Family) (x1 : Int) (x2 : Int) : (List Int) := loopN (fun i1 (v1 : (List Int)) next => loopN (fun i2 (v2 : Bool) next => next (v2 && (!(isAncestor x0 ((implCommon x0 x1 x2).getD i1 default) ((implCommon x0 x1 x2).getD i2 default))))) (fun (v2 : Bool) => bif v2 then (next (v1 ++ [((implCommon x0 x1 x2).getD i1 default)])) else (next v1)) ((implCommon x0 x1 x2).length) 0 true) (fun (v1 : (List Int)) => v1) ((implCommon x0 x1 x2).length) 0 ([] : List Int)
def D23b1 (x0 : Family) (x1 : Int) (x2 : Int) (i1 : Nat) (v1 : (List Int)) : Dl := ⟨[(20, .int .i64 ((i1 : Nat) : Int)), (8, .own 20008)], [(20008, .arr 1 v1.length (rowOf (cInt .i64) v1))]⟩
def D23b2 (x0 : Family) (x1 : Int) (x2 : Int) (i1 : Nat) (v1 : (List Int)) (i2 : Nat) (v2 : Bool) : Dl := ⟨[(26, .int .i64 ((i2 : Nat) : Int)), (11, .bool v2)], []⟩
def A23b2 (x0 : Family) (x1 : Int) (x2 : Int) (i1 : Nat) (v1 : (List Int)) (i2 : Nat) (v2 : Bool) : Ann := r0 1 [3, 6, 7, 8, 10, 11, 18, 19, 20, 24, 25, 26, 27] [3, 1017, 20008] (cn (decide (((i2 : Nat) : Int) < (((implCommon x0 x1 x2).length : Nat) : Int))) (r1 1 [3, 6, 7, 8, 10, 11, 13, 18, 19, 20, 24, 25, 26] [3, 1017, 20008] [pf (0 ≤ (((i2 : Nat) : Int) : Int) ∧ (((i2 : Nat) : Int) : Int) < (((implCommon x0 x1 x2).length : Nat) : Int))] [0] (.reg 1 [] [(5, cg v2 (k49 x0 ((implCommon x0 x1 x2).getD i1 default) ((implCommon x0 x1 x2).getD i2 default)))] [3, 6, 7, 8, 10, 11, 18, 19, 20, 24, 25, 26] [3, 1017, 20008] [v2] [] [] [1, 1, 1, 0, 1, 1] (r1 1 [3, 6, 7, 8, 10, 11, 18, 19, 20, 24, 25, 26] [3, 1017, 20008] [pf (inR .i64 (((i2 : Nat) : Int) + 1))] [0] (.next 0 [] (D23b2 x0 x1 x2 i1 v1 (i2 + 1) (v2 && (!(isAncestor x0 ((implCommon x0 x1 x2).getD i1 default) ((implCommon x0 x1 x2).getD i2 default))))))))) (r0 1 [3, 6, 7, 8, 10, 18, 19, 20, 39] [3, 1017, 20008] (cn v2 (.reg 1 [] [(2, bsC 42 (cInt .i64) ([((implCommon x0 x1 x2).getD i1 default)] : List Int)), (3, ap1 43 (cInt .i64) 8 v1 ((implCommon x0 x1 x2).getD i1 default))] [3, 6, 7, 8, 18, 19, 20] [3, 43, 1017] [] [] [] [0, 4] (r1 1 [3, 6, 7, 8, 18, 19, 20] [3, 43, 1017] [pf (inR .i64 (((i1 : Nat) : Int) + 1))] [0] (.next 1 [(20008, some 43)] (D23b1 x0 x1 x2 (i1 + 1) (v1 ++ [((implCommon x0 x1 x2).getD i1 default)]))))) (r1 1 [3, 6, 7, 8, 18, 19, 20] [3, 1017, 20008] [pf (inR .i64 (((i1 : Nat) : Int) + 1))] [0] (.next 1 [(20008, some 20008)] (D23b1 x0 x1 x2 (i1 + 1) v1))))))
def A23b1 (x0 : Family) (x1 : Int) (x2 : Int) (i1 : Nat) (v1 : (List Int)) : Ann := r0 1 [3, 6, 7, 8, 18, 19, 20, 21] [3, 1017, 20008] (cn (decide (((i1 : Nat) : Int) < (((implCommon x0 x1 x2).length : Nat) : Int))) (r1 2 [3, 6, 7, 8, 10, 11, 18, 19, 20] [3, 1017, 20008] [pf (0 ≤ (((i1 : Nat) : Int) : Int) ∧ (((i1 : Nat) : Int) : Int) < (((implCommon x0 x1 x2).length : Nat) : Int))] [0] (r0 1 [3, 6, 7, 8, 10, 11, 18, 19, 20, 24, 25, 26] [3, 1017, 20008] (lp (D23b2 x0 x1 x2 i1 v1) [] [] [] (D23b2 x0 x1 x2 i1 v1 0 true) (A23b2 x0 x1 x2 i1 v1)))) (r0 1 [6] [20008] (rt [(0, some 20008)] (C23 v1))))
def A23 (x0 : Family) (x1 : Int) (x2 : Int) : Ann := .reg 3 [] [(1003, k21 x0 x1 x2)] [3, 6, 7, 8] [3, 1017] [] [] [] [0] (r0 1 [3, 6, 7, 8, 18, 19, 20] [3, 1017] (lp (D23b1 x0 x1 x2) [] [] [(20008, none)] (D23b1 x0 x1 x2 0 ([] : List Int)) (A23b1 x0 x1 x2)))
theorem ok_impl_NearestCommon (x0 : Family) (x1 : Int) (x2 : Int) (hx : x0.people.length ≤ 1048576) (hu : x0.unions.length ≤ 1048576) (hn : ∀ p ∈ x0.people, p.name.length ≤ 1048576) : FnT Try.prog 23 [.agg (cFamily false x0), .int .i64 x1, .int .i64 x2] (C23 (implNearest x0 x1 x2)) := by
  have aux : ∀ R, implNearest x0 x1 x2 = R → slim (C23 R) (A23 x0 x1 x2) [] := by
    intro R hR
    refine rg ⟨⟨by trivial, by trivial, by trivial⟩, trivial⟩ ?_
    refine rg trivial ?_
    revert hR; refine lN (fun i v => v.length ≤ i) (by trivial) rfl fun i1 v1 F1 hn1 hI1 hR hK1 => ?_
    refine rg trivial ?_
    refine ⟨fun hc1 => ?_, fun hc1 => ?_⟩
    · have hii1 : i1 < (implCommon x0 x1 x2).length := by have := of_decide_eq_true hc1; omega
      replace hR := loopN_step hR hii1
      refine rg ⟨by (intros; omega), trivial⟩ ?_
      refine rg trivial ?_
      revert hR; refine lN (fun i v => True) (by trivial) rfl fun i2 v2 F2 hn2 hI2 hR hK2 => ?_
      refine rg trivial ?_
      refine ⟨fun hc2 => ?_, fun hc2 => ?_⟩
      · have hii2 : i2 < (implCommon x0 x1 x2).length := by have := of_decide_eq_true hc2; omega
        replace hR := loopN_step hR hii2
        refine rg ⟨by (intros; omega), trivial⟩ ?_
        refine rg ⟨fun hg0 => ⟨by trivial, by (have h7 := hii1; have h8 := hii2; rw [implCommon_eq] at h7 h8 ⊢; have h7 := specCommon_get h7; have h8 := specCommon_get h8; omega), by (rw [implCommon_eq] at *; have h9 := specCommon_get hii2; omega), by (rw [implCommon_eq] at *; have h9 := specCommon_get hii2; exact isFamily_par _ h9.1.1)⟩, trivial⟩ ?_
        refine rg ⟨by ((try clear hR hK1 hK2); intros; (try simp only [decide_eq_true_eq, decide_eq_false_iff_not, Bool.or_eq_true, Bool.and_eq_true, or_f_iff, not_f_iff, not_t_iff, Bool.not_eq_true', inR] at *); (repeat' apply And.intro) <;> (first | (intros; omega) | (have := specCommon_len x0 x1 x2; rw [implCommon_eq] at *; omega))), trivial⟩ ?_
        exact hK2 (v2 && (!(isAncestor x0 ((implCommon x0 x1 x2).getD i1 default) ((implCommon x0 x1 x2).getD i2 default)))) hii2 (by trivial) hR
      · obtain rfl : i2 = (implCommon x0 x1 x2).length := by have := of_decide_eq_false hc2; omega
        replace hR := loopN_end hR (Nat.lt_irrefl _)
        refine rg trivial ?_
        revert hR; refine cd (fun hc3 hR => ?_) fun hc3 hR => ?_
        ·
          refine rg ⟨trivial, by (have := specCommon_len x0 x1 x2; rw [implCommon_eq] at *; omega), trivial⟩ ?_
          refine rg ⟨by ((try clear hR hK1 hK2); intros; (try simp only [decide_eq_true_eq, decide_eq_false_iff_not, Bool.or_eq_true, Bool.and_eq_true, or_f_iff, not_f_iff, not_t_iff, Bool.not_eq_true', inR] at *); (repeat' apply And.intro) <;> (first | (intros; omega) | (have := specCommon_len x0 x1 x2; rw [implCommon_eq] at *; omega))), trivial⟩ ?_
          exact hK1 (v1 ++ [((implCommon x0 x1 x2).getD i1 default)]) hii1 (by (simp; omega)) hR
        ·
          refine rg ⟨by ((try clear hR hK1 hK2); intros; (try simp only [decide_eq_true_eq, decide_eq_false_iff_not, Bool.or_eq_true, Bool.and_eq_true, or_f_iff, not_f_iff, not_t_iff, Bool.not_eq_true', inR] at *); (repeat' apply And.intro) <;> (first | (intros; omega) | (have := specCommon_len x0 x1 x2; rw [implCommon_eq] at *; omega))), trivial⟩ ?_
          exact hK1 v1 hii1 (by (intros; omega)) hR
    · obtain rfl : i1 = (implCommon x0 x1 x2).length := by have := of_decide_eq_false hc1; omega
      replace hR := loopN_end hR (Nat.lt_irrefl _)
      refine rg trivial ?_
      exact congrArg C23 hR
  exact Fn.go 46 Try.func23 (by kernel_rfl) (by kernel_rfl) (by simp [C23, Frs, FrsL, FrsB, rowOf, cInt, cBool, cStr, cSl, FrsL_app, cPerson, cUnion, cFamily]) (A23 x0 x1 x2) (by kernel_rfl) (aux _ rfl)
def k23 (x0 : Family) (x1 : Int) (x2 : Int) : Cl := (hres (C23 (implNearest x0 x1 x2)), k3 (ok_impl_NearestCommon x0 x1 x2))
theorem nearest_eq (x : Family) (a b : Int) : implNearest x a b = specNearest x a b := by
  unfold implNearest specNearest
  rw [implCommon_eq]
  refine loopN_rel0 (fun i (v u : List Int) => v = u) Eq rfl (fun i v u n1 n2 hi hv hn => ?_) (fun v u hv => hv)
  subst hv
  refine loopN_rel0 (fun i (v u : Bool) => v = u) Eq rfl (fun j v u m1 m2 hj hv hm => ?_) (fun v u hv => ?_)
  · subst hv
    obtain ⟨⟨hf, _, _⟩, h1, h2, _⟩ := specCommon_get hj
    rw [isAncestor_eq hf ⟨h1, h2⟩]
    refine hm _ _ ?_
    congr 1
    by_cases c : 0 < (l8Up x ((specCommon x a b).getD j default)).getD ((specCommon x a b).getD i default).toNat default
    · rw [decide_eq_true c, decide_eq_false (by omega)]; rfl
    · rw [decide_eq_false c, decide_eq_true (by omega)]; rfl
  · subst hv
    cases v
    · exact hn _ _ rfl
    · exact hn _ _ rfl
theorem implNearest_len (x : Family) (a b : Int) : (implNearest x a b).length ≤ x.people.length := by rw [nearest_eq]; exact specNearest_len x a b
def C96 (R : Family) : LV × List (Nat × BC) := (.agg [.own 0, .own 1], [(0, .arr 6 R.people.length (rowOf (cPerson true) R.people)), (1, .arr 4 R.unions.length (rowOf (cUnion true) R.unions))])
def l1Copy (x0 : Family) : Family := x0
def A96 (x0 : Family) : Ann := .reg 5 [] [(2004, apN 9 (cPerson true) 56 x0.people), (3004, apN 15 (cUnion true) 32 x0.unions)] [2] [2, 9, 15] [] [] [] [0, 4] (rt [(0, some 9), (1, some 15)] (C96 x0))
theorem ok_spec_l1Copy (x0 : Family) (hx : x0.people.length ≤ 1048576) (hu : x0.unions.length ≤ 1048576) : FnT Try.prog 96 [.agg (cFamily false x0)] (C96 (l1Copy x0)) := by
  have aux : ∀ R, l1Copy x0 = R → slim (C96 R) (A96 x0) [] := by
    intro R hR
    refine rg ⟨by omega, by omega, trivial⟩ ?_
    exact congrArg C96 hR
  exact Fn.go 18 Try.func96 (by kernel_rfl) (by kernel_rfl) (by simp [C96, Frs, FrsL, FrsB, rowOf, cInt, cBool, cStr, cSl, FrsL_app, cPerson, cUnion, cFamily]) (A96 x0) (by kernel_rfl) (aux _ rfl)
def k96 (x0 : Family) : Cl := (hres (C96 (l1Copy x0)), k2 (ok_spec_l1Copy x0))
end Go.Proofs.Ytanpfncfphpddab
