import Derived.Test.YtanpfncfphpddabM49
set_option maxHeartbeats 4000000
set_option linter.unusedSimpArgs false
set_option linter.unusedVariables false
namespace Go.Proofs.Ytanpfncfphpddab
open Go Go.Lite Go.Proofs
def C34 (R : Bool) : LV × List (Nat × BC) := (.bool R, [])
def lawSubset (x0 : List Int) (x1 : List Int) : Bool := loopN (fun i1 (v1 : Unit) next => bif (!(lawHas x1 (x0.getD i1 default))) then false else (next ())) (fun (v1 : Unit) => true) x0.length 0 ()
def D34b1 (x0 : List Int) (x1 : List Int) (i1 : Nat) (v1 : Unit) : Dl := ⟨[(9, .int .i64 ((i1 : Nat) : Int))], []⟩
def A34b1 (x0 : List Int) (x1 : List Int) (i1 : Nat) (v1 : Unit) : Ann := r0 1 [1, 4, 7, 8, 9, 10] [] (cn (decide (((i1 : Nat) : Int) < ((x0.length : Nat) : Int))) (.reg 2 [] [(1002, k29 x1 (x0.getD i1 default))] [1, 4, 7, 8, 9, 16] [] [] [pf (0 ≤ (((i1 : Nat) : Int) : Int) ∧ (((i1 : Nat) : Int) : Int) < ((x0.length : Nat) : Int))] [] [0, 4] (cn (!(lawHas x1 (x0.getD i1 default))) (r0 1 [1, 4, 7, 8, 9] [] (rt [] (C34 false))) (r1 1 [1, 4, 7, 8, 9] [] [pf (inR .i64 (((i1 : Nat) : Int) + 1))] [0] (.next 0 [] (D34b1 x0 x1 (i1 + 1) ()))))) (r0 1 [4] [] (rt [] (C34 true))))
def A34 (x0 : List Int) (x1 : List Int) : Ann := r0 1 [0, 1, 4] [] (r0 1 [1, 4, 7, 8, 9] [] (lp (D34b1 x0 x1) [] [] [] (D34b1 x0 x1 0 ()) (A34b1 x0 x1)))
theorem ok_laws_subset (x0 : List Int) (x1 : List Int) (hx : x0.length ≤ 1048576) (hy : x1.length ≤ 1048576) : FnT Try.prog 34 [.ro false 1 x0.length (rowOf (cInt .i64) x0), .ro false 1 x1.length (rowOf (cInt .i64) x1)] (C34 (lawSubset x0 x1)) := by
  have aux : ∀ R, lawSubset x0 x1 = R → slim (C34 R) (A34 x0 x1) [] := by
    intro R hR
    refine rg trivial ?_
    refine rg trivial ?_
    revert hR; refine lN (fun i v => True) (by first | trivial | assumption | rfl | (intros; omega) | ( intros; simp only [inR]; omega) | ((try clear hR); intros; (try simp only [decide_eq_true_eq, decide_eq_false_iff_not, Bool.or_eq_true, Bool.and_eq_true, or_f_iff, not_f_iff, not_t_iff, Bool.not_eq_true', inR] at *); (repeat' apply And.intro) <;> (first | (intros; omega) | assumption | rfl | (simp_all [inR]; done) | (simp_all [inR]; omega)))) rfl fun i1 v1 F1 hn1 hI1 hR hK1 => ?_
    refine rg trivial ?_
    refine ⟨fun hc1 => ?_, fun hc1 => ?_⟩
    · have hii1 : i1 < x0.length := by have := of_decide_eq_true hc1; omega
      replace hR := loopN_step hR hii1
      refine rg ⟨by first | trivial | assumption | rfl | (intros; omega) | ( intros; simp only [inR]; omega) | ((try clear hR hK1); intros; (try simp only [decide_eq_true_eq, decide_eq_false_iff_not, Bool.or_eq_true, Bool.and_eq_true, or_f_iff, not_f_iff, not_t_iff, Bool.not_eq_true', inR] at *); (repeat' apply And.intro) <;> (first | (intros; omega) | assumption | rfl | (simp_all [inR]; done) | (simp_all [inR]; omega))), by first | trivial | assumption | rfl | (intros; omega) | ( intros; simp only [inR]; omega) | ((try clear hR hK1); intros; (try simp only [decide_eq_true_eq, decide_eq_false_iff_not, Bool.or_eq_true, Bool.and_eq_true, or_f_iff, not_f_iff, not_t_iff, Bool.not_eq_true', inR] at *); (repeat' apply And.intro) <;> (first | (intros; omega) | assumption | rfl | (simp_all [inR]; done) | (simp_all [inR]; omega))), trivial⟩ ?_
      revert hR; refine cd (fun hc2 hR => ?_) fun hc2 hR => ?_
      ·
        refine rg trivial ?_
        exact congrArg C34 hR
      ·
        refine rg ⟨by first | trivial | assumption | rfl | (intros; omega) | ( intros; simp only [inR]; omega) | ((try clear hR hK1); intros; (try simp only [decide_eq_true_eq, decide_eq_false_iff_not, Bool.or_eq_true, Bool.and_eq_true, or_f_iff, not_f_iff, not_t_iff, Bool.not_eq_true', inR] at *); (repeat' apply And.intro) <;> (first | (intros; omega) | assumption | rfl | (simp_all [inR]; done) | (simp_all [inR]; omega))), trivial⟩ ?_
        exact hK1 () hii1 (by first | trivial | assumption | rfl | (intros; omega) | ( intros; simp only [inR]; omega) | ((try clear hR hK1); intros; (try simp only [decide_eq_true_eq, decide_eq_false_iff_not, Bool.or_eq_true, Bool.and_eq_true, or_f_iff, not_f_iff, not_t_iff, Bool.not_eq_true', inR] at *); (repeat' apply And.intro) <;> (first | (intros; omega) | assumption | rfl | (simp_all [inR]; done) | (simp_all [inR]; omega)))) hR
    · obtain rfl : i1 = x0.length := by have := of_decide_eq_false hc1; omega
      replace hR := loopN_end hR (Nat.lt_irrefl _)
      refine rg trivial ?_
      exact congrArg C34 hR
  exact Fn.go 18 Try.func34 (by kernel_rfl) (by kernel_rfl) (by simp [C34, Frs, FrsL]) (A34 x0 x1) (by kernel_rfl) (aux _ rfl)
def k34 (x0 : List Int) (x1 : List Int) : Cl := (hres (C34 (lawSubset x0 x1)), k2 (ok_laws_subset x0 x1))
def C36 (R : (List Int)) : LV × List (Nat × BC) := (.own 0, [(0, .arr 1 R.length (rowOf (cInt .i64) R))])
def implParents (x0 : Family) (x1 : Int) : (List Int) := bif (!(implHas x0 [x1])) then ([] : List Int) else (parentsOf x0 x1)
def A36 (x0 : Family) (x1 : Int) : Ann := r0 1 [1, 2, 4] [2] (.reg 1 [] [(2, bsC 7 (cInt .i64) ([x1] : List Int)), (3, k43 x0 [x1])] [1, 2, 4, 9] [2] [] [] [] [0, 4] (cn (!(implHas x0 [x1])) (r0 1 [1, 2, 4] [2] (rt [(0, none)] (C36 ([] : List Int)))) (.reg 1 [] [(2, k64 x0 x1)] [4] [1012] [] [] [] [0] (rt [(0, some 1012)] (C36 (parentsOf x0 x1))))))
theorem ok_impl_ParentsOf (x0 : Family) (x1 : Int) (hx : x0.people.length ≤ 1048576) (hu : x0.unions.length ≤ 1048576) (hn : ∀ p ∈ x0.people, p.name.length ≤ 1048576) : FnT Try.prog 36 [.agg (cFamily false x0), .int .i64 x1] (C36 (implParents x0 x1)) := by
  have aux : ∀ R, implParents x0 x1 = R → slim (C36 R) (A36 x0 x1) [] := by
    intro R hR
    refine rg trivial ?_
    refine rg ⟨trivial, ⟨by first | trivial | assumption | rfl | (intros; omega) | ( intros; simp only [inR]; omega) | (have h9 := (implHas1 x0 x1).1 (by simpa using hc1); omega) | (have h9 := (implHas1 x0 x1).1 (by simpa using hc1); exact h9.1) | ((try clear hR); intros; (try simp only [decide_eq_true_eq, decide_eq_false_iff_not, Bool.or_eq_true, Bool.and_eq_true, or_f_iff, not_f_iff, not_t_iff, Bool.not_eq_true', inR] at *); (repeat' apply And.intro) <;> (first | (intros; omega) | (have h9 := (implHas1 x0 x1).1 (by simpa using hc1); omega) | (have h9 := (implHas1 x0 x1).1 (by simpa using hc1); exact h9.1) | assumption | rfl | (simp_all [inR]; done) | (simp_all [inR]; omega))), by first | trivial | assumption | rfl | (intros; omega) | ( intros; simp only [inR]; omega) | (have h9 := (implHas1 x0 x1).1 (by simpa using hc1); omega) | (have h9 := (implHas1 x0 x1).1 (by simpa using hc1); exact h9.1) | ((try clear hR); intros; (try simp only [decide_eq_true_eq, decide_eq_false_iff_not, Bool.or_eq_true, Bool.and_eq_true, or_f_iff, not_f_iff, not_t_iff, Bool.not_eq_true', inR] at *); (repeat' apply And.intro) <;> (first | (intros; omega) | (have h9 := (implHas1 x0 x1).1 (by simpa using hc1); omega) | (have h9 := (implHas1 x0 x1).1 (by simpa using hc1); exact h9.1) | assumption | rfl | (simp_all [inR]; done) | (simp_all [inR]; omega))), by first | trivial | assumption | rfl | (intros; omega) | ( intros; simp only [inR]; omega) | (have h9 := (implHas1 x0 x1).1 (by simpa using hc1); omega) | (have h9 := (implHas1 x0 x1).1 (by simpa using hc1); exact h9.1) | ((try clear hR); intros; (try simp only [decide_eq_true_eq, decide_eq_false_iff_not, Bool.or_eq_true, Bool.and_eq_true, or_f_iff, not_f_iff, not_t_iff, Bool.not_eq_true', inR] at *); (repeat' apply And.intro) <;> (first | (intros; omega) | (have h9 := (implHas1 x0 x1).1 (by simpa using hc1); omega) | (have h9 := (implHas1 x0 x1).1 (by simpa using hc1); exact h9.1) | assumption | rfl | (simp_all [inR]; done) | (simp_all [inR]; omega))), by first | trivial | assumption | rfl | (intros; omega) | ( intros; simp only [inR]; omega) | (have h9 := (implHas1 x0 x1).1 (by simpa using hc1); omega) | (have h9 := (implHas1 x0 x1).1 (by simpa using hc1); exact h9.1) | ((try clear hR); intros; (try simp only [decide_eq_true_eq, decide_eq_false_iff_not, Bool.or_eq_true, Bool.and_eq_true, or_f_iff, not_f_iff, not_t_iff, Bool.not_eq_true', inR] at *); (repeat' apply And.intro) <;> (first | (intros; omega) | (have h9 := (implHas1 x0 x1).1 (by simpa using hc1); omega) | (have h9 := (implHas1 x0 x1).1 (by simpa using hc1); exact h9.1) | assumption | rfl | (simp_all [inR]; done) | (simp_all [inR]; omega)))⟩, trivial⟩ ?_
    revert hR; refine cd (fun hc1 hR => ?_) fun hc1 hR => ?_
    ·
      refine rg trivial ?_
      exact congrArg C36 hR
    ·
      refine rg ⟨⟨by first | trivial | assumption | rfl | (intros; omega) | ( intros; simp only [inR]; omega) | (have h9 := (implHas1 x0 x1).1 (by simpa using hc1); omega) | (have h9 := (implHas1 x0 x1).1 (by simpa using hc1); exact h9.1) | ((try clear hR); intros; (try simp only [decide_eq_true_eq, decide_eq_false_iff_not, Bool.or_eq_true, Bool.and_eq_true, or_f_iff, not_f_iff, not_t_iff, Bool.not_eq_true', inR] at *); (repeat' apply And.intro) <;> (first | (intros; omega) | (have h9 := (implHas1 x0 x1).1 (by simpa using hc1); omega) | (have h9 := (implHas1 x0 x1).1 (by simpa using hc1); exact h9.1) | assumption | rfl | (simp_all [inR]; done) | (simp_all [inR]; omega))), by first | trivial | assumption | rfl | (intros; omega) | ( intros; simp only [inR]; omega) | (have h9 := (implHas1 x0 x1).1 (by simpa using hc1); omega) | (have h9 := (implHas1 x0 x1).1 (by simpa using hc1); exact h9.1) | ((try clear hR); intros; (try simp only [decide_eq_true_eq, decide_eq_false_iff_not, Bool.or_eq_true, Bool.and_eq_true, or_f_iff, not_f_iff, not_t_iff, Bool.not_eq_true', inR] at *); (repeat' apply And.intro) <;> (first | (intros; omega) | (have h9 := (implHas1 x0 x1).1 (by simpa using hc1); omega) | (have h9 := (implHas1 x0 x1).1 (by simpa using hc1); exact h9.1) | assumption | rfl | (simp_all [inR]; done) | (simp_all [inR]; omega)))⟩, trivial⟩ ?_
      have hp1 := parentsOf_rng x0 x1
      exact congrArg C36 hR
  exact Fn.go 13 Try.func36 (by kernel_rfl) (by kernel_rfl) (by simp [C36, Frs, FrsL, FrsB, rowOf, cInt, cBool, cStr, cSl, FrsL_app, cPerson, cUnion, cFamily, cl01Cur]) (A36 x0 x1) (by kernel_rfl) (aux _ rfl)
def k36 (x0 : Family) (x1 : Int) : Cl := (hres (C36 (implParents x0 x1)), k3 (ok_impl_ParentsOf x0 x1))
end Go.Proofs.Ytanpfncfphpddab
