import Derived.Test.YtkkijpibajigfaaM8
set_option maxHeartbeats 4000000
set_option linter.unusedSimpArgs false
set_option linter.unusedVariables false
namespace Go.Proofs.Ytkkijpibajigfaa
open Go Go.Lite Go.Proofs
def C69 (R : (List Int)) : LV × List (Nat × BC) := (.own 0, [(0, .arr 1 R.length (rowOf (cInt .i64) R))])
def l8Common (x0 : Family) (x1 : Int) (x2 : Int) : (List Int) := loopN (fun i1 (v1 : (List Int)) next => bif ((decide (0 ≤ ((l8Up x0 x1).getD i1 default))) && (decide (0 ≤ ((l8Up x0 x2).getD i1 default)))) then (next (v1 ++ [((i1 : Nat) : Int)])) else (next v1)) (fun (v1 : (List Int)) => v1) ((l8Up x0 x1).length) 0 ([] : List Int)
def D69b1 (x0 : Family) (x1 : Int) (x2 : Int) (i1 : Nat) (v1 : (List Int)) : Dl := ⟨[(20, .int .i64 ((i1 : Nat) : Int)), (9, .own 20009)], [(20009, .arr 1 v1.length (rowOf (cInt .i64) v1))]⟩
def A69b1 (x0 : Family) (x1 : Int) (x2 : Int) (i1 : Nat) (v1 : (List Int)) : Ann := r0 1 [6, 7, 8, 9, 19, 20, 21] [1013, 1016, 20009] (cn (decide (((i1 : Nat) : Int) < (((l8Up x0 x1).length : Nat) : Int))) (.reg 2 [] [] [6, 7, 8, 9, 10, 19, 20, 34] [1013, 1016, 20009] [decide (0 ≤ ((l8Up x0 x1).getD i1 default))] [pf (0 ≤ (((i1 : Nat) : Int) : Int) ∧ (((i1 : Nat) : Int) : Int) < (((l8Up x0 x1).length : Nat) : Int)), gt (decide (0 ≤ ((l8Up x0 x1).getD i1 default))) (pf (0 ≤ (((i1 : Nat) : Int) : Int) ∧ (((i1 : Nat) : Int) : Int) < (((l8Up x0 x2).length : Nat) : Int)))] [] [0, 1, 1, 4, 1, 1, 1] (cn ((decide (0 ≤ ((l8Up x0 x1).getD i1 default))) && (decide (0 ≤ ((l8Up x0 x2).getD i1 default)))) (.reg 1 [] [(2, bsC 37 (cInt .i64) ([((i1 : Nat) : Int)] : List Int)), (3, ap1 38 (cInt .i64) 8 v1 ((i1 : Nat) : Int))] [6, 7, 8, 9, 19, 20] [38, 1013, 1016] [] [] [] [0, 4] (r1 1 [6, 7, 8, 9, 19, 20] [38, 1013, 1016] [pf (inR .i64 (((i1 : Nat) : Int) + 1))] [0] (.next 0 [(20009, some 38)] (D69b1 x0 x1 x2 (i1 + 1) (v1 ++ [((i1 : Nat) : Int)]))))) (r1 1 [6, 7, 8, 9, 19, 20] [1013, 1016, 20009] [pf (inR .i64 (((i1 : Nat) : Int) + 1))] [0] (.next 0 [(20009, some 20009)] (D69b1 x0 x1 x2 (i1 + 1) v1))))) (r0 1 [6] [20009] (rt [(0, some 20009)] (C69 v1))))
def A69 (x0 : Family) (x1 : Int) (x2 : Int) : Ann := .reg 4 [] [(1002, k107 x0 x1), (2002, k107 x0 x2), (3000, bsC 17 (cInt .i64) ([] : List Int))] [6, 7, 8, 9] [17, 1013, 1016] [] [] [] [0, 4, 8] (r0 1 [6, 7, 8, 9, 19, 20] [17, 1013, 1016] (lp (D69b1 x0 x1 x2) [] [17] [(20009, some 17)] (D69b1 x0 x1 x2 0 ([] : List Int)) (A69b1 x0 x1 x2)))
theorem ok_spec_l8Common (x0 : Family) (x1 : Int) (x2 : Int) (hx : x0.people.length ≤ 1048576) (hi : 0 ≤ x1 ∧ x1 < x0.people.length) (hj : 0 ≤ x2 ∧ x2 < x0.people.length) (hp : ∀ (k : Nat), k < x0.people.length → (x0.people.getD k default).father < k ∧ (x0.people.getD k default).mother < k) : FnT Try.prog 69 [.agg (cFamily false x0), .int .i64 x1, .int .i64 x2] (C69 (l8Common x0 x1 x2)) := by
  have aux : ∀ R, l8Common x0 x1 x2 = R → slim (C69 R) (A69 x0 x1 x2) [] := by
    intro R hR
    refine rg ⟨⟨by trivial, by trivial, by trivial⟩, ⟨by trivial, by trivial, by trivial⟩, trivial, trivial⟩ ?_
    have hp1 := l8Up_len x0 x1
    have hp2 := l8Up_len x0 x2
    refine rg trivial ?_
    revert hR; refine lN (fun i v => v.length ≤ i) (by trivial) rfl fun i1 v1 F1 hn1 hI1 hR hK1 => ?_
    refine rg trivial ?_
    refine ⟨fun hc1 => ?_, fun hc1 => ?_⟩
    · have hii1 : i1 < (l8Up x0 x1).length := by have := of_decide_eq_true hc1; omega
      replace hR := loopN_step hR hii1
      refine rg ⟨by (intros; omega), by (intros; omega), trivial⟩ ?_
      revert hR; refine cd (fun hc2 hR => ?_) fun hc2 hR => ?_
      ·
        refine rg ⟨trivial, by omega, trivial⟩ ?_
        refine rg ⟨by ( intros; simp only [inR]; omega), trivial⟩ ?_
        exact hK1 (v1 ++ [((i1 : Nat) : Int)]) hii1 (by (simp; omega)) hR
      ·
        refine rg ⟨by ( intros; simp only [inR]; omega), trivial⟩ ?_
        exact hK1 v1 hii1 (by (intros; omega)) hR
    · obtain rfl : i1 = (l8Up x0 x1).length := by have := of_decide_eq_false hc1; omega
      replace hR := loopN_end hR (Nat.lt_irrefl _)
      refine rg trivial ?_
      exact congrArg C69 hR
  exact Fn.go 41 Try.func69 (by kernel_rfl) (by kernel_rfl) (by simp [C69, Frs, FrsL, FrsB, rowOf, cInt, cBool, cStr, cSl, FrsL_app, cPerson, cUnion, cFamily]) (A69 x0 x1 x2) (by kernel_rfl) (aux _ rfl)
def k69 (x0 : Family) (x1 : Int) (x2 : Int) : Cl := (hres (C69 (l8Common x0 x1 x2)), k4 (ok_spec_l8Common x0 x1 x2))
def C74 (R : (List Int)) : LV × List (Nat × BC) := (.own 0, [(0, .arr 1 R.length (rowOf (cInt .i64) R))])
def commonAncestors (x0 : Family) (x1 : Int) (x2 : Int) : (List Int) := loopN (fun i1 (v1 : (List Int)) next => bif ((decide (0 ≤ ((stepsUp x0 x1).getD i1 default))) && (decide (0 ≤ ((stepsUp x0 x2).getD i1 default)))) then (next (v1 ++ [((i1 : Nat) : Int)])) else (next v1)) (fun (v1 : (List Int)) => v1) x0.people.length 0 ([] : List Int)
def D74b1 (x0 : Family) (x1 : Int) (x2 : Int) (i1 : Nat) (v1 : (List Int)) : Dl := ⟨[(20, .int .i64 ((i1 : Nat) : Int)), (9, .own 20009)], [(20009, .arr 1 v1.length (rowOf (cInt .i64) v1))]⟩
def A74b1 (x0 : Family) (x1 : Int) (x2 : Int) (i1 : Nat) (v1 : (List Int)) : Ann := r0 1 [6, 7, 8, 9, 19, 20, 21] [1013, 1016, 20009] (cn (decide (((i1 : Nat) : Int) < ((x0.people.length : Nat) : Int))) (.reg 2 [] [] [6, 7, 8, 9, 10, 19, 20, 34] [1013, 1016, 20009] [decide (0 ≤ ((stepsUp x0 x1).getD i1 default))] [pf (0 ≤ (((i1 : Nat) : Int) : Int) ∧ (((i1 : Nat) : Int) : Int) < (((stepsUp x0 x1).length : Nat) : Int)), gt (decide (0 ≤ ((stepsUp x0 x1).getD i1 default))) (pf (0 ≤ (((i1 : Nat) : Int) : Int) ∧ (((i1 : Nat) : Int) : Int) < (((stepsUp x0 x2).length : Nat) : Int)))] [] [0, 1, 1, 4, 1, 1, 1] (cn ((decide (0 ≤ ((stepsUp x0 x1).getD i1 default))) && (decide (0 ≤ ((stepsUp x0 x2).getD i1 default)))) (.reg 1 [] [(2, bsC 37 (cInt .i64) ([((i1 : Nat) : Int)] : List Int)), (3, ap1 38 (cInt .i64) 8 v1 ((i1 : Nat) : Int))] [6, 7, 8, 9, 19, 20] [38, 1013, 1016] [] [] [] [0, 4] (r1 1 [6, 7, 8, 9, 19, 20] [38, 1013, 1016] [pf (inR .i64 (((i1 : Nat) : Int) + 1))] [0] (.next 0 [(20009, some 38)] (D74b1 x0 x1 x2 (i1 + 1) (v1 ++ [((i1 : Nat) : Int)]))))) (r1 1 [6, 7, 8, 9, 19, 20] [1013, 1016, 20009] [pf (inR .i64 (((i1 : Nat) : Int) + 1))] [0] (.next 0 [(20009, some 20009)] (D74b1 x0 x1 x2 (i1 + 1) v1))))) (r0 1 [6] [20009] (rt [(0, some 20009)] (C74 v1))))
def A74 (x0 : Family) (x1 : Int) (x2 : Int) : Ann := .reg 3 [] [(1002, k78 x0 x1), (1005, k78 x0 x2)] [3, 6, 7, 8, 9] [3, 1013, 1016] [] [] [] [0, 4] (r0 1 [6, 7, 8, 9, 19, 20] [1013, 1016] (lp (D74b1 x0 x1 x2) [] [] [(20009, none)] (D74b1 x0 x1 x2 0 ([] : List Int)) (A74b1 x0 x1 x2)))
theorem ok_impl_commonAncestors (x0 : Family) (x1 : Int) (x2 : Int) (hx : x0.people.length ≤ 1048576) (hi : 0 ≤ x1 ∧ x1 < x0.people.length) (hj : 0 ≤ x2 ∧ x2 < x0.people.length) (hp : ∀ (k : Nat), k < x0.people.length → (x0.people.getD k default).father < k ∧ (x0.people.getD k default).mother < k) : FnT Try.prog 74 [.agg (cFamily false x0), .int .i64 x1, .int .i64 x2] (C74 (commonAncestors x0 x1 x2)) := by
  have aux : ∀ R, commonAncestors x0 x1 x2 = R → slim (C74 R) (A74 x0 x1 x2) [] := by
    intro R hR
    refine rg ⟨⟨by trivial, by trivial, by trivial⟩, ⟨by trivial, by trivial, by trivial⟩, trivial⟩ ?_
    refine rg trivial ?_
    revert hR; refine lN (fun i v => v.length ≤ i) (by trivial) rfl fun i1 v1 F1 hn1 hI1 hR hK1 => ?_
    refine rg trivial ?_
    refine ⟨fun hc1 => ?_, fun hc1 => ?_⟩
    · have hii1 : i1 < x0.people.length := by have := of_decide_eq_true hc1; omega
      replace hR := loopN_step hR hii1
      refine rg ⟨by (have := stepsUp_len x0 x1 hp hi; have := stepsUp_len x0 x2 hp hj; omega), by (have := stepsUp_len x0 x1 hp hi; have := stepsUp_len x0 x2 hp hj; omega), trivial⟩ ?_
      revert hR; refine cd (fun hc2 hR => ?_) fun hc2 hR => ?_
      ·
        refine rg ⟨trivial, by omega, trivial⟩ ?_
        refine rg ⟨by ( intros; simp only [inR]; omega), trivial⟩ ?_
        exact hK1 (v1 ++ [((i1 : Nat) : Int)]) hii1 (by (simp; omega)) hR
      ·
        refine rg ⟨by ( intros; simp only [inR]; omega), trivial⟩ ?_
        exact hK1 v1 hii1 (by (intros; omega)) hR
    · obtain rfl : i1 = x0.people.length := by have := of_decide_eq_false hc1; omega
      replace hR := loopN_end hR (Nat.lt_irrefl _)
      refine rg trivial ?_
      exact congrArg C74 hR
  exact Fn.go 41 Try.func74 (by kernel_rfl) (by kernel_rfl) (by simp [C74, Frs, FrsL, FrsB, rowOf, cInt, cBool, cStr, cSl, FrsL_app, cPerson, cUnion, cFamily]) (A74 x0 x1 x2) (by kernel_rfl) (aux _ rfl)
def k74 (x0 : Family) (x1 : Int) (x2 : Int) : Cl := (hres (C74 (commonAncestors x0 x1 x2)), k4 (ok_impl_commonAncestors x0 x1 x2))
def C164 (R : (List Int)) : LV × List (Nat × BC) := (.own 0, [(0, .arr 1 R.length (rowOf (cInt .i64) R))])
def specCommon (x0 : Family) (x1 : Int) (x2 : Int) : (List Int) := bif ((!(l1Has x0 x1)) || (!(l1Has x0 x2))) then ([] : List Int) else (l8Common x0 x1 x2)
def A164 (x0 : Family) (x1 : Int) (x2 : Int) : Ann := r0 1 [1, 2, 3, 6] [3] (.reg 1 [] [(2, k60 x0 x1), (7, cg (!(!(l1Has x0 x1))) (k60 x0 x2))] [1, 2, 3, 6, 16] [3] [!(!(l1Has x0 x1)), !(l1Has x0 x1)] [] [] [0, 1, 1, 4, 1, 6] (cn ((!(l1Has x0 x1)) || (!(l1Has x0 x2))) (r0 1 [1, 2, 3, 6] [3] (rt [(0, none)] (C164 ([] : List Int)))) (.reg 1 [] [(3, k69 x0 x1 x2)] [6] [1020] [] [] [] [0] (rt [(0, some 1020)] (C164 (l8Common x0 x1 x2))))))
theorem ok_spec_CommonAncestors (x0 : Family) (x1 : Int) (x2 : Int) (hx : x0.people.length ≤ 1048576) (hu : x0.unions.length ≤ 1048576) (hn : ∀ p ∈ x0.people, p.name.length ≤ 1048576) : FnT Try.prog 164 [.agg (cFamily false x0), .int .i64 x1, .int .i64 x2] (C164 (specCommon x0 x1 x2)) := by
  have aux : ∀ R, specCommon x0 x1 x2 = R → slim (C164 R) (A164 x0 x1 x2) [] := by
    intro R hR
    refine rg trivial ?_
    refine rg ⟨⟨by trivial, by trivial, by trivial⟩, fun hg0 => ⟨by trivial, by trivial, by trivial⟩, trivial⟩ ?_
    revert hR; refine cd (fun hc1 hR => ?_) fun hc1 hR => ?_
    ·
      refine rg trivial ?_
      exact congrArg C164 hR
    ·
      refine rg ⟨⟨by trivial, by ((try clear hR); intros; (try simp only [decide_eq_true_eq, decide_eq_false_iff_not, Bool.or_eq_true, Bool.and_eq_true, or_f_iff, not_f_iff, not_t_iff, Bool.not_eq_true', inR, l1Has_iff] at *); (repeat' apply And.intro) <;> (intros; omega)), by ((try clear hR); intros; (try simp only [decide_eq_true_eq, decide_eq_false_iff_not, Bool.or_eq_true, Bool.and_eq_true, or_f_iff, not_f_iff, not_t_iff, Bool.not_eq_true', inR, l1Has_iff] at *); (repeat' apply And.intro) <;> (intros; omega)), by (exact isFamily_par _ (by simp_all [l1Has_iff]))⟩, trivial⟩ ?_
      exact congrArg C164 hR
  exact Fn.go 21 Try.func164 (by kernel_rfl) (by kernel_rfl) (by simp [C164, Frs, FrsL, FrsB, rowOf, cInt, cBool, cStr, cSl, FrsL_app, cPerson, cUnion, cFamily]) (A164 x0 x1 x2) (by kernel_rfl) (aux _ rfl)
def k164 (x0 : Family) (x1 : Int) (x2 : Int) : Cl := (hres (C164 (specCommon x0 x1 x2)), k3 (ok_spec_CommonAncestors x0 x1 x2))
end Go.Proofs.Ytkkijpibajigfaa
