import Derived.Test.YtanpfncfphpddabV11
set_option maxHeartbeats 4000000
set_option linter.unusedSimpArgs false
set_option linter.unusedVariables false
namespace Go.Proofs.Ytanpfncfphpddab
open Go Go.Lite Go.Proofs
def C10 (R : (List Int)) : LV × List (Nat × BC) := (.own 0, [(0, .arr 1 R.length (rowOf (cInt .i64) R))])
def specAncestors (x0 : Family) (x1 : Int) : (List Int) := bif (!(l1Has x0 x1)) then ([] : List Int) else (loopN (fun i1 (v1 : (List Int)) next => bif (decide (0 < ((l8Up x0 x1).getD i1 default))) then (next (v1 ++ [((i1 : Nat) : Int)])) else (next v1)) (fun (v1 : (List Int)) => v1) ((l8Up x0 x1).length) 0 ([] : List Int))
def D10b1 (x0 : Family) (x1 : Int) (i1 : Nat) (v1 : (List Int)) : Dl := ⟨[(17, .int .i64 ((i1 : Nat) : Int)), (5, .own 20005)], [(20005, .arr 1 v1.length (rowOf (cInt .i64) v1))]⟩
def A10b1 (x0 : Family) (x1 : Int) (i1 : Nat) (v1 : (List Int)) : Ann := r0 1 [4, 5, 15, 16, 17, 18] [1015, 20005] (cn (decide (((i1 : Nat) : Int) < (((l8Up x0 x1).length : Nat) : Int))) (r1 2 [4, 5, 6, 15, 16, 17, 23] [1015, 20005] [pf (0 ≤ (((i1 : Nat) : Int) : Int) ∧ (((i1 : Nat) : Int) : Int) < (((l8Up x0 x1).length : Nat) : Int))] [0] (cn (decide (0 < ((l8Up x0 x1).getD i1 default))) (.reg 1 [] [(2, bsC 26 (cInt .i64) ([((i1 : Nat) : Int)] : List Int)), (3, ap1 27 (cInt .i64) 8 v1 ((i1 : Nat) : Int))] [4, 5, 15, 16, 17] [27, 1015] [] [] [] [0, 4] (r1 1 [4, 5, 15, 16, 17] [27, 1015] [pf (inR .i64 (((i1 : Nat) : Int) + 1))] [0] (.next 0 [(20005, some 27)] (D10b1 x0 x1 (i1 + 1) (v1 ++ [((i1 : Nat) : Int)]))))) (r1 1 [4, 5, 15, 16, 17] [1015, 20005] [pf (inR .i64 (((i1 : Nat) : Int) + 1))] [0] (.next 0 [(20005, some 20005)] (D10b1 x0 x1 (i1 + 1) v1))))) (r0 1 [4] [20005] (rt [(0, some 20005)] (C10 v1))))
def A10 (x0 : Family) (x1 : Int) : Ann := r0 1 [1, 2, 4] [2] (.reg 1 [] [(2, k39 x0 x1)] [1, 2, 4, 11] [2] [] [] [] [0] (cn (!(l1Has x0 x1)) (r0 1 [1, 2, 4] [2] (rt [(0, none)] (C10 ([] : List Int)))) (.reg 1 [] [(0, bsC 12 (cInt .i64) ([] : List Int))] [1, 2, 4, 5] [2, 12] [] [] [] [0] (.reg 1 [] [(2, k40 x0 x1)] [4, 5, 15, 16, 17] [12, 1015] [] [] [] [0] (lp (D10b1 x0 x1) [] [12] [(20005, some 12)] (D10b1 x0 x1 0 ([] : List Int)) (A10b1 x0 x1))))))
theorem ok_spec_AncestorsOf (x0 : Family) (x1 : Int) (hx : x0.people.length ≤ 1048576) (hu : x0.unions.length ≤ 1048576) (hn : ∀ p ∈ x0.people, p.name.length ≤ 1048576) : FnT Try.prog 10 [.agg (cFamily false x0), .int .i64 x1] (C10 (specAncestors x0 x1)) := by
  have aux : ∀ R, specAncestors x0 x1 = R → slim (C10 R) (A10 x0 x1) [] := by
    intro R hR
    refine rg trivial ?_
    refine rg ⟨⟨by trivial, by trivial, by trivial⟩, trivial⟩ ?_
    revert hR; refine cd (fun hc1 hR => ?_) fun hc1 hR => ?_
    ·
      refine rg trivial ?_
      exact congrArg C10 hR
    ·
      refine rg ⟨trivial, trivial⟩ ?_
      refine rg ⟨⟨by trivial, by (have h9 := (l1Has_iff x0 x1).1 (by simpa using hc1); omega), by (have h9 := (l1Has_iff x0 x1).1 (by simpa using hc1); exact isFamily_par _ h9.2)⟩, trivial⟩ ?_
      have hp1 := l8Up_len x0 x1
      revert hR; refine lN (fun i v => v.length ≤ i) (by trivial) rfl fun i1 v1 F1 hn1 hI1 hR hK1 => ?_
      refine rg trivial ?_
      refine ⟨fun hc2 => ?_, fun hc2 => ?_⟩
      · have hii1 : i1 < (l8Up x0 x1).length := by have := of_decide_eq_true hc2; omega
        replace hR := loopN_step hR hii1
        refine rg ⟨by (intros; omega), trivial⟩ ?_
        revert hR; refine cd (fun hc3 hR => ?_) fun hc3 hR => ?_
        ·
          refine rg ⟨trivial, by omega, trivial⟩ ?_
          refine rg ⟨by ( intros; simp only [inR]; omega), trivial⟩ ?_
          exact hK1 (v1 ++ [((i1 : Nat) : Int)]) hii1 (by (simp; omega)) hR
        ·
          refine rg ⟨by ( intros; simp only [inR]; omega), trivial⟩ ?_
          exact hK1 v1 hii1 (by (intros; omega)) hR
      · obtain rfl : i1 = (l8Up x0 x1).length := by have := of_decide_eq_false hc2; omega
        replace hR := loopN_end hR (Nat.lt_irrefl _)
        refine rg trivial ?_
        exact congrArg C10 hR
  exact Fn.go 30 Try.func10 (by kernel_rfl) (by kernel_rfl) (by simp [C10, Frs, FrsL, FrsB, rowOf, cInt, cBool, cStr, cSl, FrsL_app, cPerson, cUnion, cFamily]) (A10 x0 x1) (by kernel_rfl) (aux _ rfl)
def k10 (x0 : Family) (x1 : Int) : Cl := (hres (C10 (specAncestors x0 x1)), k3 (ok_spec_AncestorsOf x0 x1))
def C18 (R : (List Int)) : LV × List (Nat × BC) := (.own 0, [(0, .arr 1 R.length (rowOf (cInt .i64) R))])
def specDescendants (x0 : Family) (x1 : Int) : (List Int) := bif (!(l1Has x0 x1)) then ([] : List Int) else (loopN (fun i1 (v1 : (List Int)) next => bif (decide (0 < ((l8Up x0 ((i1 : Nat) : Int)).getD x1.toNat default))) then (next (v1 ++ [((i1 : Nat) : Int)])) else (next v1)) (fun (v1 : (List Int)) => v1) x0.people.length 0 ([] : List Int))
def D18b1 (x0 : Family) (x1 : Int) (i1 : Nat) (v1 : (List Int)) : Dl := ⟨[(15, .int .i64 ((i1 : Nat) : Int)), (5, .own 20005)], [(20005, .arr 1 v1.length (rowOf (cInt .i64) v1))]⟩
def A18b1 (x0 : Family) (x1 : Int) (i1 : Nat) (v1 : (List Int)) : Ann := r0 1 [1, 2, 4, 5, 14, 15, 16] [2, 20005] (cn (decide (((i1 : Nat) : Int) < ((x0.people.length : Nat) : Int))) (.reg 2 [] [(1002, k40 x0 ((i1 : Nat) : Int))] [1, 2, 4, 5, 6, 14, 15, 24] [2, 20005] [] [pf (0 ≤ (x1 : Int) ∧ (x1 : Int) < (((l8Up x0 ((i1 : Nat) : Int)).length : Nat) : Int))] [] [4, 0] (cn (decide (0 < ((l8Up x0 ((i1 : Nat) : Int)).getD x1.toNat default))) (.reg 1 [] [(2, bsC 27 (cInt .i64) ([((i1 : Nat) : Int)] : List Int)), (3, ap1 28 (cInt .i64) 8 v1 ((i1 : Nat) : Int))] [1, 2, 4, 5, 14, 15] [2, 28] [] [] [] [0, 4] (r1 1 [1, 2, 4, 5, 14, 15] [2, 28] [pf (inR .i64 (((i1 : Nat) : Int) + 1))] [0] (.next 0 [(20005, some 28)] (D18b1 x0 x1 (i1 + 1) (v1 ++ [((i1 : Nat) : Int)]))))) (r1 1 [1, 2, 4, 5, 14, 15] [2, 20005] [pf (inR .i64 (((i1 : Nat) : Int) + 1))] [0] (.next 0 [(20005, some 20005)] (D18b1 x0 x1 (i1 + 1) v1))))) (r0 1 [4] [20005] (rt [(0, some 20005)] (C18 v1))))
def A18 (x0 : Family) (x1 : Int) : Ann := r0 1 [1, 2, 4] [2] (.reg 1 [] [(2, k39 x0 x1)] [1, 2, 4, 10] [2] [] [] [] [0] (cn (!(l1Has x0 x1)) (r0 1 [1, 2, 4] [2] (rt [(0, none)] (C18 ([] : List Int)))) (.reg 1 [] [(0, bsC 11 (cInt .i64) ([] : List Int))] [1, 2, 4, 5] [2, 11] [] [] [] [0] (r0 1 [1, 2, 4, 5, 14, 15] [2, 11] (lp (D18b1 x0 x1) [] [11] [(20005, some 11)] (D18b1 x0 x1 0 ([] : List Int)) (A18b1 x0 x1))))))
theorem ok_spec_DescendantsOf (x0 : Family) (x1 : Int) (hx : x0.people.length ≤ 1048576) (hu : x0.unions.length ≤ 1048576) (hn : ∀ p ∈ x0.people, p.name.length ≤ 1048576) : FnT Try.prog 18 [.agg (cFamily false x0), .int .i64 x1] (C18 (specDescendants x0 x1)) := by
  have aux : ∀ R, specDescendants x0 x1 = R → slim (C18 R) (A18 x0 x1) [] := by
    intro R hR
    refine rg trivial ?_
    refine rg ⟨⟨by trivial, by trivial, by trivial⟩, trivial⟩ ?_
    revert hR; refine cd (fun hc1 hR => ?_) fun hc1 hR => ?_
    ·
      refine rg trivial ?_
      exact congrArg C18 hR
    ·
      refine rg ⟨trivial, trivial⟩ ?_
      refine rg trivial ?_
      revert hR; refine lN (fun i v => v.length ≤ i) (by trivial) rfl fun i1 v1 F1 hn1 hI1 hR hK1 => ?_
      refine rg trivial ?_
      refine ⟨fun hc2 => ?_, fun hc2 => ?_⟩
      · have hii1 : i1 < x0.people.length := by have := of_decide_eq_true hc2; omega
        replace hR := loopN_step hR hii1
        refine rg ⟨by (have h9 := l8Up_len x0 (i1 : Int); have h8 := (l1Has_iff x0 x1).1 (by simpa using hc1); omega), ⟨by trivial, by (intros; omega), by (have h9 := (l1Has_iff x0 x1).1 (by simpa using hc1); exact isFamily_par _ h9.2)⟩, trivial⟩ ?_
        have hp1 := l8Up_len x0 ((i1 : Nat) : Int)
        revert hR; refine cd (fun hc3 hR => ?_) fun hc3 hR => ?_
        ·
          refine rg ⟨trivial, by omega, trivial⟩ ?_
          refine rg ⟨by ( intros; simp only [inR]; omega), trivial⟩ ?_
          exact hK1 (v1 ++ [((i1 : Nat) : Int)]) hii1 (by (simp; omega)) hR
        ·
          refine rg ⟨by ( intros; simp only [inR]; omega), trivial⟩ ?_
          exact hK1 v1 hii1 (by (intros; omega)) hR
      · obtain rfl : i1 = x0.people.length := by have := of_decide_eq_false hc2; omega
        replace hR := loopN_end hR (Nat.lt_irrefl _)
        refine rg trivial ?_
        exact congrArg C18 hR
  exact Fn.go 31 Try.func18 (by kernel_rfl) (by kernel_rfl) (by simp [C18, Frs, FrsL, FrsB, rowOf, cInt, cBool, cStr, cSl, FrsL_app, cPerson, cUnion, cFamily]) (A18 x0 x1) (by kernel_rfl) (aux _ rfl)
def k18 (x0 : Family) (x1 : Int) : Cl := (hres (C18 (specDescendants x0 x1)), k3 (ok_spec_DescendantsOf x0 x1))
def C22 (R : (List Int)) : LV × List (Nat × BC) := (.own 0, [(0, .arr 1 R.length (rowOf (cInt .i64) R))])
def specNearest (x0 : Family) (x1 : Int) (x2 : Int) : (List Int) := loopN (fun i1 (v1 : (List Int)) next => loopN (fun i2 (v2 : Bool) next => next (v2 && (decide (((l8Up x0 ((specCommon x0 x1 x2).getD i2 default)).getD (((specCommon x0 x1 x2).getD i1 default).toNat) default) ≤ 0)))) (fun (v2 : Bool) => bif v2 then (next (v1 ++ [((specCommon x0 x1 x2).getD i1 default)])) else (next v1)) ((specCommon x0 x1 x2).length) 0 true) (fun (v1 : (List Int)) => v1) ((specCommon x0 x1 x2).length) 0 ([] : List Int)
def D22b1 (x0 : Family) (x1 : Int) (x2 : Int) (i1 : Nat) (v1 : (List Int)) : Dl := ⟨[(21, .int .i64 ((i1 : Nat) : Int)), (7, .own 20007)], [(20007, .arr 1 v1.length (rowOf (cInt .i64) v1))]⟩
def D22b2 (x0 : Family) (x1 : Int) (x2 : Int) (i1 : Nat) (v1 : (List Int)) (i2 : Nat) (v2 : Bool) : Dl := ⟨[(27, .int .i64 ((i2 : Nat) : Int)), (11, .bool v2)], []⟩
def A22b2 (x0 : Family) (x1 : Int) (x2 : Int) (i1 : Nat) (v1 : (List Int)) (i2 : Nat) (v2 : Bool) : Ann := r0 1 [3, 6, 7, 8, 10, 11, 19, 20, 21, 25, 26, 27, 28] [3, 1018, 20007] (cn (decide (((i2 : Nat) : Int) < (((specCommon x0 x1 x2).length : Nat) : Int))) (r1 1 [3, 6, 7, 8, 10, 11, 13, 19, 20, 21, 25, 26, 27] [3, 1018, 20007] [pf (0 ≤ (((i2 : Nat) : Int) : Int) ∧ (((i2 : Nat) : Int) : Int) < (((specCommon x0 x1 x2).length : Nat) : Int))] [0] (.reg 1 [] [(4, cg v2 (k40 x0 ((specCommon x0 x1 x2).getD i2 default)))] [3, 6, 7, 8, 10, 11, 19, 20, 21, 25, 26, 27] [3, 1018, 20007] [v2] [gt v2 (pf (0 ≤ (((specCommon x0 x1 x2).getD i1 default) : Int) ∧ (((specCommon x0 x1 x2).getD i1 default) : Int) < (((l8Up x0 ((specCommon x0 x1 x2).getD i2 default)).length : Nat) : Int)))] [] [1, 1, 4, 1, 1, 0, 1, 1, 1] (r1 1 [3, 6, 7, 8, 10, 11, 19, 20, 21, 25, 26, 27] [3, 1018, 20007] [pf (inR .i64 (((i2 : Nat) : Int) + 1))] [0] (.next 0 [] (D22b2 x0 x1 x2 i1 v1 (i2 + 1) (v2 && (decide (((l8Up x0 ((specCommon x0 x1 x2).getD i2 default)).getD (((specCommon x0 x1 x2).getD i1 default).toNat) default) ≤ 0)))))))) (r0 1 [3, 6, 7, 8, 10, 19, 20, 21, 42] [3, 1018, 20007] (cn v2 (.reg 1 [] [(2, bsC 45 (cInt .i64) ([((specCommon x0 x1 x2).getD i1 default)] : List Int)), (3, ap1 46 (cInt .i64) 8 v1 ((specCommon x0 x1 x2).getD i1 default))] [3, 6, 7, 8, 19, 20, 21] [3, 46, 1018] [] [] [] [0, 4] (r1 1 [3, 6, 7, 8, 19, 20, 21] [3, 46, 1018] [pf (inR .i64 (((i1 : Nat) : Int) + 1))] [0] (.next 1 [(20007, some 46)] (D22b1 x0 x1 x2 (i1 + 1) (v1 ++ [((specCommon x0 x1 x2).getD i1 default)]))))) (r1 1 [3, 6, 7, 8, 19, 20, 21] [3, 1018, 20007] [pf (inR .i64 (((i1 : Nat) : Int) + 1))] [0] (.next 1 [(20007, some 20007)] (D22b1 x0 x1 x2 (i1 + 1) v1))))))
def A22b1 (x0 : Family) (x1 : Int) (x2 : Int) (i1 : Nat) (v1 : (List Int)) : Ann := r0 1 [3, 6, 7, 8, 19, 20, 21, 22] [3, 1018, 20007] (cn (decide (((i1 : Nat) : Int) < (((specCommon x0 x1 x2).length : Nat) : Int))) (r1 2 [3, 6, 7, 8, 10, 11, 19, 20, 21] [3, 1018, 20007] [pf (0 ≤ (((i1 : Nat) : Int) : Int) ∧ (((i1 : Nat) : Int) : Int) < (((specCommon x0 x1 x2).length : Nat) : Int))] [0] (r0 1 [3, 6, 7, 8, 10, 11, 19, 20, 21, 25, 26, 27] [3, 1018, 20007] (lp (D22b2 x0 x1 x2 i1 v1) [] [] [] (D22b2 x0 x1 x2 i1 v1 0 true) (A22b2 x0 x1 x2 i1 v1)))) (r0 1 [6] [20007] (rt [(0, some 20007)] (C22 v1))))
def A22 (x0 : Family) (x1 : Int) (x2 : Int) : Ann := .reg 3 [] [(1000, bsC 14 (cInt .i64) ([] : List Int)), (2003, k20 x0 x1 x2)] [3, 6, 7, 8] [3, 14, 1018] [] [] [] [0, 4] (r0 1 [3, 6, 7, 8, 19, 20, 21] [3, 14, 1018] (lp (D22b1 x0 x1 x2) [] [14] [(20007, some 14)] (D22b1 x0 x1 x2 0 ([] : List Int)) (A22b1 x0 x1 x2)))
theorem ok_spec_NearestCommon (x0 : Family) (x1 : Int) (x2 : Int) (hx : x0.people.length ≤ 1048576) (hu : x0.unions.length ≤ 1048576) (hn : ∀ p ∈ x0.people, p.name.length ≤ 1048576) : FnT Try.prog 22 [.agg (cFamily false x0), .int .i64 x1, .int .i64 x2] (C22 (specNearest x0 x1 x2)) := by
  have aux : ∀ R, specNearest x0 x1 x2 = R → slim (C22 R) (A22 x0 x1 x2) [] := by
    intro R hR
    refine rg ⟨trivial, ⟨by trivial, by trivial, by trivial⟩, trivial⟩ ?_
    refine rg trivial ?_
    revert hR; refine lN (fun i v => v.length ≤ i) (by trivial) rfl fun i1 v1 F1 hn1 hI1 hR hK1 => ?_
    refine rg trivial ?_
    refine ⟨fun hc1 => ?_, fun hc1 => ?_⟩
    · have hii1 : i1 < (specCommon x0 x1 x2).length := by have := of_decide_eq_true hc1; omega
      replace hR := loopN_step hR hii1
      refine rg ⟨by (intros; omega), trivial⟩ ?_
      refine rg trivial ?_
      revert hR; refine lN (fun i v => True) (by trivial) rfl fun i2 v2 F2 hn2 hI2 hR hK2 => ?_
      refine rg trivial ?_
      refine ⟨fun hc2 => ?_, fun hc2 => ?_⟩
      · have hii2 : i2 < (specCommon x0 x1 x2).length := by have := of_decide_eq_true hc2; omega
        replace hR := loopN_step hR hii2
        refine rg ⟨by (intros; omega), trivial⟩ ?_
        refine rg ⟨by (have h8 := specCommon_get hii1; have h9 := l8Up_len x0 ((specCommon x0 x1 x2).getD i2 default); omega), fun hg0 => ⟨by trivial, by (have h9 := specCommon_get hii2; omega), by (have h9 := specCommon_get hii2; exact isFamily_par _ h9.1.1)⟩, trivial⟩ ?_
        have hp1 := l8Up_len x0 ((specCommon x0 x1 x2).getD i2 default)
        refine rg ⟨by ((try clear hR hK1 hK2); intros; (try simp only [decide_eq_true_eq, decide_eq_false_iff_not, Bool.or_eq_true, Bool.and_eq_true, or_f_iff, not_f_iff, not_t_iff, Bool.not_eq_true', inR] at *); (repeat' apply And.intro) <;> (first | (intros; omega) | (have := specCommon_len x0 x1 x2; omega))), trivial⟩ ?_
        exact hK2 (v2 && (decide (((l8Up x0 ((specCommon x0 x1 x2).getD i2 default)).getD (((specCommon x0 x1 x2).getD i1 default).toNat) default) ≤ 0))) hii2 (by trivial) hR
      · obtain rfl : i2 = (specCommon x0 x1 x2).length := by have := of_decide_eq_false hc2; omega
        replace hR := loopN_end hR (Nat.lt_irrefl _)
        refine rg trivial ?_
        revert hR; refine cd (fun hc3 hR => ?_) fun hc3 hR => ?_
        ·
          refine rg ⟨trivial, by (have := specCommon_len x0 x1 x2; omega), trivial⟩ ?_
          refine rg ⟨by ((try clear hR hK1 hK2); intros; (try simp only [decide_eq_true_eq, decide_eq_false_iff_not, Bool.or_eq_true, Bool.and_eq_true, or_f_iff, not_f_iff, not_t_iff, Bool.not_eq_true', inR] at *); (repeat' apply And.intro) <;> (first | (intros; omega) | (have := specCommon_len x0 x1 x2; omega))), trivial⟩ ?_
          exact hK1 (v1 ++ [((specCommon x0 x1 x2).getD i1 default)]) hii1 (by (simp; omega)) hR
        ·
          refine rg ⟨by ((try clear hR hK1 hK2); intros; (try simp only [decide_eq_true_eq, decide_eq_false_iff_not, Bool.or_eq_true, Bool.and_eq_true, or_f_iff, not_f_iff, not_t_iff, Bool.not_eq_true', inR] at *); (repeat' apply And.intro) <;> (first | (intros; omega) | (have := specCommon_len x0 x1 x2; omega))), trivial⟩ ?_
          exact hK1 v1 hii1 (by (intros; omega)) hR
    · obtain rfl : i1 = (specCommon x0 x1 x2).length := by have := of_decide_eq_false hc1; omega
      replace hR := loopN_end hR (Nat.lt_irrefl _)
      refine rg trivial ?_
      exact congrArg C22 hR
  exact Fn.go 49 Try.func22 (by kernel_rfl) (by kernel_rfl) (by simp [C22, Frs, FrsL, FrsB, rowOf, cInt, cBool, cStr, cSl, FrsL_app, cPerson, cUnion, cFamily]) (A22 x0 x1 x2) (by kernel_rfl) (aux _ rfl)
def k22 (x0 : Family) (x1 : Int) (x2 : Int) : Cl := (hres (C22 (specNearest x0 x1 x2)), k3 (ok_spec_NearestCommon x0 x1 x2))
def C49 (R : Bool) : LV × List (Nat × BC) := (.bool R, [])
def isAncestor (x0 : Family) (x1 : Int) (x2 : Int) : Bool := decide (0 < ((stepsUp x0 x2).getD x1.toNat default))
def A49 (x0 : Family) (x1 : Int) (x2 : Int) : Ann := .reg 2 [] [(1002, k44 x0 x2)] [6] [] [] [pf (0 ≤ (x1 : Int) ∧ (x1 : Int) < (((stepsUp x0 x2).length : Nat) : Int))] [] [4, 0] (rt [] (C49 (decide (0 < ((stepsUp x0 x2).getD x1.toNat default)))))
theorem ok_impl_isAncestor (x0 : Family) (x1 : Int) (x2 : Int) (hx : x0.people.length ≤ 1048576) (hi : 0 ≤ x1 ∧ x1 < x0.people.length) (hj : 0 ≤ x2 ∧ x2 < x0.people.length) (hp : ∀ (k : Nat), k < x0.people.length → (x0.people.getD k default).father < k ∧ (x0.people.getD k default).mother < k) : FnT Try.prog 49 [.agg (cFamily false x0), .int .i64 x1, .int .i64 x2] (C49 (isAncestor x0 x1 x2)) := by
  have aux : ∀ R, isAncestor x0 x1 x2 = R → slim (C49 R) (A49 x0 x1 x2) [] := by
    intro R hR
    refine rg ⟨by (have := stepsUp_len x0 x2 hp hj; omega), ⟨by trivial, by trivial, by trivial⟩, trivial⟩ ?_
    exact congrArg C49 hR
  exact Fn.go 14 Try.func49 (by kernel_rfl) (by kernel_rfl) (by simp [C49, Frs, FrsL]) (A49 x0 x1 x2) (by kernel_rfl) (aux _ rfl)
def k49 (x0 : Family) (x1 : Int) (x2 : Int) : Cl := (hres (C49 (isAncestor x0 x1 x2)), k4 (ok_impl_isAncestor x0 x1 x2))
def C12 (R : (List Int)) : LV × List (Nat × BC) := (.own 0, [(0, .arr 1 R.length (rowOf (cInt .i64) R))])
def implAncestors (x0 : Family) (x1 : Int) : (List Int) := bif (!(implHas x0 [x1])) then ([] : List Int) else (loopN (fun i1 (v1 : (List Int)) next => bif (decide (0 < ((stepsUp x0 x1).getD i1 default))) then (next (v1 ++ [((i1 : Nat) : Int)])) else (next v1)) (fun (v1 : (List Int)) => v1) ((stepsUp x0 x1).length) 0 ([] : List Int))
def D12b1 (x0 : Family) (x1 : Int) (i1 : Nat) (v1 : (List Int)) : Dl := ⟨[(17, .int .i64 ((i1 : Nat) : Int)), (5, .own 20005)], [(20005, .arr 1 v1.length (rowOf (cInt .i64) v1))]⟩
def A12b1 (x0 : Family) (x1 : Int) (i1 : Nat) (v1 : (List Int)) : Ann := r0 1 [4, 5, 15, 16, 17, 18] [1015, 20005] (cn (decide (((i1 : Nat) : Int) < (((stepsUp x0 x1).length : Nat) : Int))) (r1 2 [4, 5, 6, 15, 16, 17, 23] [1015, 20005] [pf (0 ≤ (((i1 : Nat) : Int) : Int) ∧ (((i1 : Nat) : Int) : Int) < (((stepsUp x0 x1).length : Nat) : Int))] [0] (cn (decide (0 < ((stepsUp x0 x1).getD i1 default))) (.reg 1 [] [(2, bsC 26 (cInt .i64) ([((i1 : Nat) : Int)] : List Int)), (3, ap1 27 (cInt .i64) 8 v1 ((i1 : Nat) : Int))] [4, 5, 15, 16, 17] [27, 1015] [] [] [] [0, 4] (r1 1 [4, 5, 15, 16, 17] [27, 1015] [pf (inR .i64 (((i1 : Nat) : Int) + 1))] [0] (.next 0 [(20005, some 27)] (D12b1 x0 x1 (i1 + 1) (v1 ++ [((i1 : Nat) : Int)]))))) (r1 1 [4, 5, 15, 16, 17] [1015, 20005] [pf (inR .i64 (((i1 : Nat) : Int) + 1))] [0] (.next 0 [(20005, some 20005)] (D12b1 x0 x1 (i1 + 1) v1))))) (r0 1 [4] [20005] (rt [(0, some 20005)] (C12 v1))))
def A12 (x0 : Family) (x1 : Int) : Ann := r0 1 [1, 2, 4] [2] (.reg 1 [] [(2, bsC 10 (cInt .i64) ([x1] : List Int)), (3, k43 x0 [x1])] [1, 2, 4, 12] [2] [] [] [] [0, 4] (cn (!(implHas x0 [x1])) (r0 1 [1, 2, 4] [2] (rt [(0, none)] (C12 ([] : List Int)))) (r0 1 [1, 2, 4, 5] [2] (.reg 1 [] [(2, k44 x0 x1)] [4, 5, 15, 16, 17] [1015] [] [] [] [0] (lp (D12b1 x0 x1) [] [] [(20005, none)] (D12b1 x0 x1 0 ([] : List Int)) (A12b1 x0 x1))))))
theorem ok_impl_AncestorsOf (x0 : Family) (x1 : Int) (hx : x0.people.length ≤ 1048576) (hu : x0.unions.length ≤ 1048576) (hn : ∀ p ∈ x0.people, p.name.length ≤ 1048576) : FnT Try.prog 12 [.agg (cFamily false x0), .int .i64 x1] (C12 (implAncestors x0 x1)) := by
  have aux : ∀ R, implAncestors x0 x1 = R → slim (C12 R) (A12 x0 x1) [] := by
    intro R hR
    refine rg trivial ?_
    refine rg ⟨trivial, ⟨by trivial, by trivial, by trivial, by ((try clear hR); intros; (try simp only [decide_eq_true_eq, decide_eq_false_iff_not, Bool.or_eq_true, Bool.and_eq_true, or_f_iff, not_f_iff, not_t_iff, Bool.not_eq_true', inR] at *); (repeat' apply And.intro) <;> (simp_all [inR]; done))⟩, trivial⟩ ?_
    revert hR; refine cd (fun hc1 hR => ?_) fun hc1 hR => ?_
    ·
      refine rg trivial ?_
      exact congrArg C12 hR
    ·
      refine rg trivial ?_
      refine rg ⟨⟨by trivial, by (have h9 := (implHas1 x0 x1).1 (by simpa using hc1); omega), by (have h9 := (implHas1 x0 x1).1 (by simpa using hc1); exact isFamily_par _ h9.1)⟩, trivial⟩ ?_
      revert hR; refine lN (fun i v => v.length ≤ i) (by trivial) rfl fun i1 v1 F1 hn1 hI1 hR hK1 => ?_
      refine rg trivial ?_
      refine ⟨fun hc2 => ?_, fun hc2 => ?_⟩
      · have hii1 : i1 < (stepsUp x0 x1).length := by have := of_decide_eq_true hc2; omega
        replace hR := loopN_step hR hii1
        refine rg ⟨by (intros; omega), trivial⟩ ?_
        revert hR; refine cd (fun hc3 hR => ?_) fun hc3 hR => ?_
        ·
          refine rg ⟨trivial, by (have h8 := (implHas1 x0 x1).1 (by simpa using hc1); have h9 := stepsUp_len x0 x1 (isFamily_par _ h8.1) h8.2; omega), trivial⟩ ?_
          refine rg ⟨by ((try clear hR hK1); intros; (try simp only [decide_eq_true_eq, decide_eq_false_iff_not, Bool.or_eq_true, Bool.and_eq_true, or_f_iff, not_f_iff, not_t_iff, Bool.not_eq_true', inR] at *); (repeat' apply And.intro) <;> (first | (intros; omega) | (have h8 := (implHas1 x0 x1).1 (by simpa using hc1); have h9 := stepsUp_len x0 x1 (isFamily_par _ h8.1) h8.2; omega))), trivial⟩ ?_
          exact hK1 (v1 ++ [((i1 : Nat) : Int)]) hii1 (by (simp; omega)) hR
        ·
          refine rg ⟨by ((try clear hR hK1); intros; (try simp only [decide_eq_true_eq, decide_eq_false_iff_not, Bool.or_eq_true, Bool.and_eq_true, or_f_iff, not_f_iff, not_t_iff, Bool.not_eq_true', inR] at *); (repeat' apply And.intro) <;> (first | (intros; omega) | (have h8 := (implHas1 x0 x1).1 (by simpa using hc1); have h9 := stepsUp_len x0 x1 (isFamily_par _ h8.1) h8.2; omega))), trivial⟩ ?_
          exact hK1 v1 hii1 (by (intros; omega)) hR
      · obtain rfl : i1 = (stepsUp x0 x1).length := by have := of_decide_eq_false hc2; omega
        replace hR := loopN_end hR (Nat.lt_irrefl _)
        refine rg trivial ?_
        exact congrArg C12 hR
  exact Fn.go 30 Try.func12 (by kernel_rfl) (by kernel_rfl) (by simp [C12, Frs, FrsL, FrsB, rowOf, cInt, cBool, cStr, cSl, FrsL_app, cPerson, cUnion, cFamily]) (A12 x0 x1) (by kernel_rfl) (aux _ rfl)
def k12 (x0 : Family) (x1 : Int) : Cl := (hres (C12 (implAncestors x0 x1)), k3 (ok_impl_AncestorsOf x0 x1))
def C19 (R : (List Int)) : LV × List (Nat × BC) := (.own 0, [(0, .arr 1 R.length (rowOf (cInt .i64) R))])
def implDescendants (x0 : Family) (x1 : Int) : (List Int) := bif (!(implHas x0 [x1])) then ([] : List Int) else (loopN (fun i1 (v1 : (List Int)) next => bif (isAncestor x0 x1 ((i1 : Nat) : Int)) then (next (v1 ++ [((i1 : Nat) : Int)])) else (next v1)) (fun (v1 : (List Int)) => v1) x0.people.length 0 ([] : List Int))
def D19b1 (x0 : Family) (x1 : Int) (i1 : Nat) (v1 : (List Int)) : Dl := ⟨[(15, .int .i64 ((i1 : Nat) : Int)), (5, .own 20005)], [(20005, .arr 1 v1.length (rowOf (cInt .i64) v1))]⟩
def A19b1 (x0 : Family) (x1 : Int) (i1 : Nat) (v1 : (List Int)) : Ann := r0 1 [1, 2, 4, 5, 14, 15, 16] [2, 20005] (cn (decide (((i1 : Nat) : Int) < ((x0.people.length : Nat) : Int))) (.reg 2 [] [(1003, k49 x0 x1 ((i1 : Nat) : Int))] [1, 2, 4, 5, 6, 14, 15, 21] [2, 20005] [] [] [] [0] (cn (isAncestor x0 x1 ((i1 : Nat) : Int)) (.reg 1 [] [(2, bsC 24 (cInt .i64) ([((i1 : Nat) : Int)] : List Int)), (3, ap1 25 (cInt .i64) 8 v1 ((i1 : Nat) : Int))] [1, 2, 4, 5, 14, 15] [2, 25] [] [] [] [0, 4] (r1 1 [1, 2, 4, 5, 14, 15] [2, 25] [pf (inR .i64 (((i1 : Nat) : Int) + 1))] [0] (.next 0 [(20005, some 25)] (D19b1 x0 x1 (i1 + 1) (v1 ++ [((i1 : Nat) : Int)]))))) (r1 1 [1, 2, 4, 5, 14, 15] [2, 20005] [pf (inR .i64 (((i1 : Nat) : Int) + 1))] [0] (.next 0 [(20005, some 20005)] (D19b1 x0 x1 (i1 + 1) v1))))) (r0 1 [4] [20005] (rt [(0, some 20005)] (C19 v1))))
def A19 (x0 : Family) (x1 : Int) : Ann := r0 1 [1, 2, 4] [2] (.reg 1 [] [(2, bsC 9 (cInt .i64) ([x1] : List Int)), (3, k43 x0 [x1])] [1, 2, 4, 11] [2] [] [] [] [0, 4] (cn (!(implHas x0 [x1])) (r0 1 [1, 2, 4] [2] (rt [(0, none)] (C19 ([] : List Int)))) (r0 1 [1, 2, 4, 5] [2] (r0 1 [1, 2, 4, 5, 14, 15] [2] (lp (D19b1 x0 x1) [] [] [(20005, none)] (D19b1 x0 x1 0 ([] : List Int)) (A19b1 x0 x1))))))
theorem ok_impl_DescendantsOf (x0 : Family) (x1 : Int) (hx : x0.people.length ≤ 1048576) (hu : x0.unions.length ≤ 1048576) (hn : ∀ p ∈ x0.people, p.name.length ≤ 1048576) : FnT Try.prog 19 [.agg (cFamily false x0), .int .i64 x1] (C19 (implDescendants x0 x1)) := by
  have aux : ∀ R, implDescendants x0 x1 = R → slim (C19 R) (A19 x0 x1) [] := by
    intro R hR
    refine rg trivial ?_
    refine rg ⟨trivial, ⟨by trivial, by trivial, by trivial, by ((try clear hR); intros; (try simp only [decide_eq_true_eq, decide_eq_false_iff_not, Bool.or_eq_true, Bool.and_eq_true, or_f_iff, not_f_iff, not_t_iff, Bool.not_eq_true', inR] at *); (repeat' apply And.intro) <;> (simp_all [inR]; done))⟩, trivial⟩ ?_
    revert hR; refine cd (fun hc1 hR => ?_) fun hc1 hR => ?_
    ·
      refine rg trivial ?_
      exact congrArg C19 hR
    ·
      refine rg trivial ?_
      refine rg trivial ?_
      revert hR; refine lN (fun i v => v.length ≤ i) (by trivial) rfl fun i1 v1 F1 hn1 hI1 hR hK1 => ?_
      refine rg trivial ?_
      refine ⟨fun hc2 => ?_, fun hc2 => ?_⟩
      · have hii1 : i1 < x0.people.length := by have := of_decide_eq_true hc2; omega
        replace hR := loopN_step hR hii1
        refine rg ⟨⟨by trivial, by (have h9 := (implHas1 x0 x1).1 (by simpa using hc1); omega), by (intros; omega), by (have h9 := (implHas1 x0 x1).1 (by simpa using hc1); exact isFamily_par _ h9.1)⟩, trivial⟩ ?_
        revert hR; refine cd (fun hc3 hR => ?_) fun hc3 hR => ?_
        ·
          refine rg ⟨trivial, by omega, trivial⟩ ?_
          refine rg ⟨by ( intros; simp only [inR]; omega), trivial⟩ ?_
          exact hK1 (v1 ++ [((i1 : Nat) : Int)]) hii1 (by (simp; omega)) hR
        ·
          refine rg ⟨by ( intros; simp only [inR]; omega), trivial⟩ ?_
          exact hK1 v1 hii1 (by (intros; omega)) hR
      · obtain rfl : i1 = x0.people.length := by have := of_decide_eq_false hc2; omega
        replace hR := loopN_end hR (Nat.lt_irrefl _)
        refine rg trivial ?_
        exact congrArg C19 hR
  exact Fn.go 28 Try.func19 (by kernel_rfl) (by kernel_rfl) (by simp [C19, Frs, FrsL, FrsB, rowOf, cInt, cBool, cStr, cSl, FrsL_app, cPerson, cUnion, cFamily]) (A19 x0 x1) (by kernel_rfl) (aux _ rfl)
def k19 (x0 : Family) (x1 : Int) : Cl := (hres (C19 (implDescendants x0 x1)), k3 (ok_impl_DescendantsOf x0 x1))
def C21 (R : (List Int)) : LV × List (Nat × BC) := (.own 0, [(0, .arr 1 R.length (rowOf (cInt .i64) R))])
def implCommon (x0 : Family) (x1 : Int) (x2 : Int) : (List Int) := bif (!(implHas x0 [x1, x2])) then ([] : List Int) else (commonAncestors x0 x1 x2)
def A21 (x0 : Family) (x1 : Int) (x2 : Int) : Ann := r0 1 [1, 2, 3, 6] [3] (.reg 1 [] [(3, bsC 10 (cInt .i64) ([x1, x2] : List Int)), (4, k43 x0 [x1, x2])] [1, 2, 3, 6, 12] [3] [] [] [] [0, 4] (cn (!(implHas x0 [x1, x2])) (r0 1 [1, 2, 3, 6] [3] (rt [(0, none)] (C21 ([] : List Int)))) (.reg 1 [] [(3, k51 x0 x1 x2)] [6] [1016] [] [] [] [0] (rt [(0, some 1016)] (C21 (commonAncestors x0 x1 x2))))))
theorem ok_impl_CommonAncestors (x0 : Family) (x1 : Int) (x2 : Int) (hx : x0.people.length ≤ 1048576) (hu : x0.unions.length ≤ 1048576) (hn : ∀ p ∈ x0.people, p.name.length ≤ 1048576) : FnT Try.prog 21 [.agg (cFamily false x0), .int .i64 x1, .int .i64 x2] (C21 (implCommon x0 x1 x2)) := by
  have aux : ∀ R, implCommon x0 x1 x2 = R → slim (C21 R) (A21 x0 x1 x2) [] := by
    intro R hR
    refine rg trivial ?_
    refine rg ⟨trivial, ⟨by trivial, by trivial, by trivial, by ((try clear hR); intros; (try simp only [decide_eq_true_eq, decide_eq_false_iff_not, Bool.or_eq_true, Bool.and_eq_true, or_f_iff, not_f_iff, not_t_iff, Bool.not_eq_true', inR] at *); (repeat' apply And.intro) <;> (simp_all [inR]; done))⟩, trivial⟩ ?_
    revert hR; refine cd (fun hc1 hR => ?_) fun hc1 hR => ?_
    ·
      refine rg trivial ?_
      exact congrArg C21 hR
    ·
      refine rg ⟨⟨by trivial, by (have h9 := (implHas2 x0 x1 x2).1 (by simpa using hc1); omega), by (have h9 := (implHas2 x0 x1 x2).1 (by simpa using hc1); omega), by (have h9 := (implHas2 x0 x1 x2).1 (by simpa using hc1); exact isFamily_par _ h9.1)⟩, trivial⟩ ?_
      exact congrArg C21 hR
  exact Fn.go 17 Try.func21 (by kernel_rfl) (by kernel_rfl) (by simp [C21, Frs, FrsL, FrsB, rowOf, cInt, cBool, cStr, cSl, FrsL_app, cPerson, cUnion, cFamily]) (A21 x0 x1 x2) (by kernel_rfl) (aux _ rfl)
def k21 (x0 : Family) (x1 : Int) (x2 : Int) : Cl := (hres (C21 (implCommon x0 x1 x2)), k3 (ok_impl_CommonAncestors x0 x1 x2))
end Go.Proofs.Ytanpfncfphpddab
