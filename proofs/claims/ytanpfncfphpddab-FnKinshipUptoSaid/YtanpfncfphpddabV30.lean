import Derived.Test.YtanpfncfphpddabV22
set_option maxHeartbeats 4000000
set_option linter.unusedSimpArgs false
set_option linter.unusedVariables false
namespace Go.Proofs.Ytanpfncfphpddab
open Go Go.Lite Go.Proofs
theorem implCommon_eq (x : Family) (a b : Int) : implCommon x a b = specCommon x a b := by
  unfold implCommon
  cases h : implHas x [a, b]
  · simp only [Bool.not_false, cond_true]
    rw [specCommon_no fun hh => by rw [(implHas2 x a b).2 hh] at h; cases h]
  · obtain ⟨h1, h2, h3⟩ := (implHas2 x a b).1 h
    simp only [Bool.not_true, cond_false]
    rw [specCommon_of h1 h2 h3, commonAncestors_eq x a b (isFamily_par x h1) h2 h3]
theorem isAncestor_eq {x : Family} (hf : specIsFamily x = true) {q p : Int} (hp : 0 ≤ p ∧ p < x.people.length) : isAncestor x q p = decide (0 < (l8Up x p).getD q.toNat default) := by
  unfold isAncestor
  rw [stepsUp_eq x p (isFamily_par x hf) hp]
theorem has1_eq (x : Family) (p : Int) : implHas x [p] = l1Has x p := by
  rw [Bool.eq_iff_iff, implHas1, l1Has_iff]; exact and_comm
theorem ancestors_eq (x : Family) (p : Int) : implAncestors x p = specAncestors x p := by
  unfold implAncestors specAncestors
  rw [has1_eq]
  cases h : l1Has x p
  · rfl
  · have h := (l1Has_iff x p).1 h
    rw [stepsUp_eq x p (isFamily_par x h.2) h.1]
theorem descendants_eq (x : Family) (p : Int) : implDescendants x p = specDescendants x p := by
  unfold implDescendants specDescendants
  rw [has1_eq]
  cases h : l1Has x p
  · rfl
  · have h := (l1Has_iff x p).1 h
    simp only [Bool.not_true, cond_false]
    refine loopN_rel0 (fun i (v u : List Int) => v = u) Eq rfl (fun i v u n1 n2 hi hv hn => ?_) (fun v u hv => hv)
    subst hv
    rw [isAncestor_eq h.2 ⟨by omega, by omega⟩]
    cases decide (0 < (l8Up x (i : Int)).getD p.toNat default)
    · exact hn _ _ rfl
    · exact hn _ _ rfl
theorem filterLoop_len {n : Nat} {p : Nat → Bool} {f : Nat → Int} : (loopN (fun i (v : List Int) next => bif p i then next (v ++ [f i]) else next v) (fun v => v) n 0 []).length ≤ n :=
  loopN_to (fun i (v : List Int) => v.length ≤ i) (fun (r : List Int) => r.length ≤ n) (by simp) (fun i v next hi hv hn => cond_both (p := fun (r : List Int) => r.length ≤ n) (fun _ => hn _ (by simp; omega)) (fun _ => hn _ (by omega))) (fun v hv => hv)
theorem specAncestors_len (x : Family) (p : Int) : (specAncestors x p).length ≤ x.people.length := by
  unfold specAncestors
  refine cond_both (p := fun (r : List Int) => r.length ≤ x.people.length) (fun _ => by simp) (fun _ => ?_)
  rw [← l8Up_len x p]; exact filterLoop_len
theorem specDescendants_len (x : Family) (p : Int) : (specDescendants x p).length ≤ x.people.length := by
  unfold specDescendants
  exact cond_both (p := fun (r : List Int) => r.length ≤ x.people.length) (fun _ => by simp) (fun _ => filterLoop_len)
theorem specNearest_len (x : Family) (a b : Int) : (specNearest x a b).length ≤ x.people.length := by
  refine Nat.le_trans ?_ (specCommon_len x a b)
  unfold specNearest
  refine loopN_to (fun i (v : List Int) => v.length ≤ i) (fun (r : List Int) => r.length ≤ (specCommon x a b).length) (by simp) (fun i v next hi hv hn => ?_) (fun v hv => hv)
  exact loopN_to (fun _ (_ : Bool) => True) (fun (r : List Int) => r.length ≤ (specCommon x a b).length) trivial (fun j u m hj _ hm => hm _ trivial) (fun u _ => cond_both (p := fun (r : List Int) => r.length ≤ (specCommon x a b).length) (fun _ => hn _ (by simp; omega)) (fun _ => hn _ (by omega)))
theorem implAncestors_len (x : Family) (p : Int) : (implAncestors x p).length ≤ x.people.length := by rw [ancestors_eq]; exact specAncestors_len x p
theorem implDescendants_len (x : Family) (p : Int) : (implDescendants x p).length ≤ x.people.length := by rw [descendants_eq]; exact specDescendants_len x p
theorem implCommon_len (x : Family) (a b : Int) : (implCommon x a b).length ≤ x.people.length := by rw [implCommon_eq]; exact specCommon_len x a b
structure Dyad where
  num : Int
  exp : Int
  deriving Inhabited
def cDyad (fr : Bool) (x : Dyad) : List LV := cInt .i64 x.num ++ cInt .i64 x.exp

def Dy (d : Dyad) : Prop := 0 ≤ d.num ∧ (0 ≤ d.exp ∧ d.exp ≤ 40) ∧ d.num * 2 ^ (40 - d.exp).toNat ≤ 2199023255552
theorem pow_pos2 (k : Nat) : (0 : Int) < 2 ^ k := Int.pow_pos (by omega)
theorem Dy.le {d : Dyad} (h : Dy d) : 0 ≤ d.num ∧ d.num ≤ 2199023255552 := by
  refine ⟨h.1, Int.le_trans ?_ h.2.2⟩
  have h1 := Int.mul_le_mul_of_nonneg_left (show (1 : Int) ≤ 2 ^ (40 - d.exp).toNat from by have := pow_pos2 (40 - d.exp).toNat; omega) h.1
  rwa [Int.mul_one] at h1
theorem Dy.dbl {n e : Int} (h : Dy ⟨n, e⟩) (he : e < 40) : Dy ⟨2 * n, e + 1⟩ := by
  obtain ⟨h1, h2, h3⟩ := h
  refine ⟨by simp only at *; omega, by simp only at *; omega, ?_⟩
  simp only at *
  have e1 : (40 - e).toNat = (40 - (e + 1)).toNat + 1 := by omega
  rw [e1, Int.pow_succ] at h3
  rw [show 2 * n * 2 ^ (40 - (e + 1)).toNat = n * (2 ^ (40 - (e + 1)).toNat * 2) by rw [Int.mul_comm 2 n, Int.mul_assoc, Int.mul_comm 2]]
  exact h3
def C58 (R : Bool) : LV × List (Nat × BC) := (.bool R, [])
def isDyad (x0 : Dyad) : Bool := ((((decide (0 ≤ x0.num)) && (decide (x0.num ≤ 1073741824))) && (decide (0 ≤ x0.exp))) && (decide (x0.exp ≤ 30))) && ((decide (x0.exp = 0)) || (decide ((x0.num.tmod 2) = 1)))
def A58 (x0 : Dyad) : Ann := .reg 2 [] [] [2] [] [decide (0 ≤ x0.num), (decide (0 ≤ x0.num)) && (decide (x0.num ≤ 1073741824)), ((decide (0 ≤ x0.num)) && (decide (x0.num ≤ 1073741824))) && (decide (0 ≤ x0.exp)), (((decide (0 ≤ x0.num)) && (decide (x0.num ≤ 1073741824))) && (decide (0 ≤ x0.exp))) && (decide (x0.exp ≤ 30)), ((((decide (0 ≤ x0.num)) && (decide (x0.num ≤ 1073741824))) && (decide (0 ≤ x0.exp))) && (decide (x0.exp ≤ 30))) && (!(decide (x0.exp = 0)))] [gt (((((decide (0 ≤ x0.num)) && (decide (x0.num ≤ 1073741824))) && (decide (0 ≤ x0.exp))) && (decide (x0.exp ≤ 30))) && (!(decide (x0.exp = 0)))) (pf ((2 : Int) ≠ 0)), gt ((((decide (0 ≤ x0.num)) && (decide (x0.num ≤ 1073741824))) && (decide (0 ≤ x0.exp))) && (decide (x0.exp ≤ 30))) (gf (decide (x0.exp = 0)) (pf ((((((decide (0 ≤ x0.num)) && (decide (x0.num ≤ 1073741824))) && (decide (0 ≤ x0.exp))) && (decide (x0.exp ≤ 30))) && (!(decide (x0.exp = 0)))) = true)))] [] [1, 1, 1, 5, 5, 5, 9, 9, 9, 13, 13, 13, 17, 17, 0, 17, 13, 4, 13] (rt [] (C58 (((((decide (0 ≤ x0.num)) && (decide (x0.num ≤ 1073741824))) && (decide (0 ≤ x0.exp))) && (decide (x0.exp ≤ 30))) && ((decide (x0.exp = 0)) || (decide ((x0.num.tmod 2) = 1))))))
theorem ok_impl_isDyad (x0 : Dyad) : FnT Try.prog 58 [.agg (cDyad false x0)] (C58 (isDyad x0)) := by
  have aux : ∀ R, isDyad x0 = R → slim (C58 R) (A58 x0) [] := by
    intro R hR
    refine rg ⟨by (intros; omega), by ((try clear hR); intros; (try simp only [decide_eq_true_eq, decide_eq_false_iff_not, Bool.or_eq_true, Bool.and_eq_true, or_f_iff, not_f_iff, not_t_iff, Bool.not_eq_true', inR] at *); (repeat' apply And.intro) <;> (intros; omega)), trivial⟩ ?_
    exact congrArg C58 hR
  exact Fn.go 32 Try.func58 (by kernel_rfl) (by kernel_rfl) (by simp [C58, Frs, FrsL]) (A58 x0) (by kernel_rfl) (aux _ rfl)
def k58 (x0 : Dyad) : Cl := (hres (C58 (isDyad x0)), k0 (ok_impl_isDyad x0))
def C59 (R : Dyad × Bool) : LV × List (Nat × BC) := (.tup [.agg [.int .i64 R.1.num, .int .i64 R.1.exp], .bool R.2], [])
def dyadOf (x0 : Int) (x1 : Int) : Dyad × Bool := loopW (fun (v1 : Int × Int) next => bif ((decide (0 < v1.2)) && (decide ((v1.1.tmod 2) = 0))) then (next (v1.1.tdiv 2, v1.2 - 1)) else ((Dyad.mk v1.1 v1.2), isDyad (Dyad.mk v1.1 v1.2))) (x1.toNat + 1) (x0, x1)
def D59b1 (x0 : Int) (x1 : Int) (v1 : Int × Int) : Dl := ⟨[(0, .int .i64 v1.1), (1, .int .i64 v1.2)], []⟩
def A59b1 (x0 : Int) (x1 : Int) (v1 : Int × Int) : Ann := .reg 1 [] [] [0, 1, 4, 5, 13] [4] [decide (0 < v1.2)] [gt (decide (0 < v1.2)) (pf ((2 : Int) ≠ 0))] [] [1, 0, 1, 1] (cn ((decide (0 < v1.2)) && (decide ((v1.1.tmod 2) = 0))) (r1 1 [0, 1, 4, 5] [4] [pf ((2 : Int) ≠ 0), pf (inR .i64 (v1.1.tdiv 2))] [0, 4] (r1 1 [0, 1, 4, 5] [4] [pf (inR .i64 (v1.2 - 1))] [0] (.next 0 [] (D59b1 x0 x1 (v1.1.tdiv 2, v1.2 - 1))))) (.reg 2 [] [(1002, k58 (Dyad.mk v1.1 v1.2))] [4, 5] [4] [] [] [] [0] (rt [] (C59 ((Dyad.mk v1.1 v1.2), isDyad (Dyad.mk v1.1 v1.2))))))
def A59 (x0 : Int) (x1 : Int) : Ann := r0 1 [0, 1, 4, 5] [4] (.loop (Int × Int) (D59b1 x0 x1) [] [] [] (D59b1 x0 x1 (x0, x1)) (A59b1 x0 x1))
theorem ok_impl_dyadOf (x0 : Int) (x1 : Int) (hn : 0 ≤ x0 ∧ x0 ≤ 4611686018427387904) (he : 0 ≤ x1 ∧ x1 ≤ 100) : FnT Try.prog 59 [.int .i64 x0, .int .i64 x1] (C59 (dyadOf x0 x1)) := by
  have aux : ∀ R, dyadOf x0 x1 = R → slim (C59 R) (A59 x0 x1) [] := by
    intro R hR
    refine rg trivial ?_
    revert hR; refine lW (fun v => (0 ≤ v.1 ∧ v.1 ≤ 4611686018427387904) ∧ 0 ≤ v.2 ∧ v.2 ≤ 100) (fun v => v.2.toNat) (by trivial) (Nat.lt_succ_self _) rfl fun m1 v1 F1 hI1 hM1 hR hK1 => ?_
    refine rg ⟨by (intros; omega), trivial⟩ ?_
    revert hR; refine cd (fun hc1 hR => ?_) fun hc1 hR => ?_
    ·
      refine rg ⟨by trivial, by ((try clear hR hK1); intros; (try simp only [decide_eq_true_eq, decide_eq_false_iff_not, Bool.or_eq_true, Bool.and_eq_true, or_f_iff, not_f_iff, not_t_iff, Bool.not_eq_true', inR] at *); (repeat' apply And.intro) <;> (have e := Int.tdiv_eq_ediv_of_nonneg (a := v1.1) (b := 2) (by omega); omega)), trivial⟩ ?_
      refine rg ⟨by ( intros; simp only [inR]; omega), trivial⟩ ?_
      exact hK1 (v1.1.tdiv 2, v1.2 - 1) (by ((try clear hR hK1); intros; (try simp only [decide_eq_true_eq, decide_eq_false_iff_not, Bool.or_eq_true, Bool.and_eq_true, or_f_iff, not_f_iff, not_t_iff, Bool.not_eq_true', inR] at *); (repeat' apply And.intro) <;> (first | (intros; omega) | (have e := Int.tdiv_eq_ediv_of_nonneg (a := v1.1) (b := 2) (by omega); omega)))) (by ((try clear hR hK1); intros; (try simp only [decide_eq_true_eq, decide_eq_false_iff_not, Bool.or_eq_true, Bool.and_eq_true, or_f_iff, not_f_iff, not_t_iff, Bool.not_eq_true', inR] at *); (repeat' apply And.intro) <;> (intros; omega))) hR
    ·
      refine rg ⟨trivial, trivial⟩ ?_
      exact congrArg C59 hR
  exact Fn.go 24 Try.func59 (by kernel_rfl) (by kernel_rfl) (by simp [C59, Frs, FrsL]) (A59 x0 x1) (by kernel_rfl) (aux _ rfl)
def k59 (x0 : Int) (x1 : Int) : Cl := (hres (C59 (dyadOf x0 x1)), k2 (ok_impl_dyadOf x0 x1))
def C55 (R : Dyad) : LV × List (Nat × BC) := (.agg [.int .i64 R.num, .int .i64 R.exp], [])
def wholeDyad (x0 : Int) : Dyad := ((dyadOf x0 40).1)
def A55 (x0 : Int) : Ann := .reg 3 [] [(1001, k59 x0 40)] [2] [2] [] [] [] [0] (rt [] (C55 ((dyadOf x0 40).1)))
theorem ok_impl_wholeDyad (x0 : Int) (hn : 0 ≤ x0 ∧ x0 ≤ 4398046511104) : FnT Try.prog 55 [.int .i64 x0] (C55 (wholeDyad x0)) := by
  have aux : ∀ R, wholeDyad x0 = R → slim (C55 R) (A55 x0) [] := by
    intro R hR
    refine rg ⟨⟨by (intros; omega), by trivial⟩, trivial⟩ ?_
    exact congrArg C55 hR
  exact Fn.go 11 Try.func55 (by kernel_rfl) (by kernel_rfl) (by simp [C55, Frs, FrsL]) (A55 x0) (by kernel_rfl) (aux _ rfl)
def k55 (x0 : Int) : Cl := (hres (C55 (wholeDyad x0)), k1 (ok_impl_wholeDyad x0))
end Go.Proofs.Ytanpfncfphpddab
