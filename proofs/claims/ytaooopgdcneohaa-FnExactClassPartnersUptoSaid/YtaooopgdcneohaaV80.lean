import Derived.Test.YtaooopgdcneohaaV21
set_option maxHeartbeats 4000000
set_option linter.unusedSimpArgs false
set_option linter.unusedVariables false
namespace Go.Proofs.Ytaooopgdcneohaa
open Go Go.Lite Go.Proofs
structure Classes where
  wife : List Int
  child : List Int
  deriving Inhabited
def cClasses (fr : Bool) (x : Classes) : List LV := cSl fr 1 (cInt .i64) x.wife ++ cSl fr 1 (cInt .i64) x.child

def C114 (R : (List Int) × Bool) : LV × List (Nat × BC) := (.tup [.own 0, .bool R.2], [(0, .arr 1 R.1.length (rowOf (cInt .i64) R.1))])
def l1Inverse (x0 : List Int) (x1 : Int) : (List Int) × Bool := loopN (fun i1 (v1 : (List Int)) next => next (v1.set i1 (-1))) (fun (v1 : (List Int)) => bif (!decide (((x0.length : Nat) : Int) = x1)) then (([] : List Int), false) else (loopN (fun i2 (v2 : (List Int)) next => bif (((decide ((x0.getD i2 default) < 0)) || (decide (x1 ≤ (x0.getD i2 default)))) || (decide (0 ≤ (v2.getD ((x0.getD i2 default).toNat) default)))) then (([] : List Int), false) else (next (v2.set ((x0.getD i2 default).toNat) ((i2 : Nat) : Int)))) (fun (v2 : (List Int)) => (v2, true)) x0.length 0 v1)) x1.toNat 0 (List.replicate x1.toNat (default : Int))
def D114b1 (x0 : List Int) (x1 : Int) (i1 : Nat) (v1 : (List Int)) : Dl := ⟨[(14, .int .i64 ((i1 : Nat) : Int)), (6, .own 20006)], [(20006, .arr 1 x1.toNat (rowOf (cInt .i64) v1))]⟩
def D114b2 (x0 : List Int) (x1 : Int) (i1 : Nat) (v1 : (List Int)) (i2 : Nat) (v2 : (List Int)) : Dl := ⟨[(27, .int .i64 ((i2 : Nat) : Int)), (6, .own 30006)], [(30006, .arr 1 x1.toNat (rowOf (cInt .i64) v2))]⟩
def A114b2 (x0 : List Int) (x1 : Int) (i1 : Nat) (v1 : (List Int)) (i2 : Nat) (v2 : (List Int)) : Ann := r0 1 [1, 4, 5, 6, 25, 26, 27, 28] [30006] (cn (decide (((i2 : Nat) : Int) < ((x0.length : Nat) : Int))) (r1 1 [1, 4, 5, 6, 8, 9, 25, 26, 27] [30006] [pf (0 ≤ (((i2 : Nat) : Int) : Int) ∧ (((i2 : Nat) : Int) : Int) < ((x0.length : Nat) : Int))] [0] (.reg 1 [] [] [1, 4, 5, 6, 8, 9, 25, 26, 27, 45] [30006] [!(decide ((x0.getD i2 default) < 0)), decide ((x0.getD i2 default) < 0), !((decide ((x0.getD i2 default) < 0)) || (decide (x1 ≤ (x0.getD i2 default)))), (decide ((x0.getD i2 default) < 0)) || (decide (x1 ≤ (x0.getD i2 default)))] [gt (!((decide ((x0.getD i2 default) < 0)) || (decide (x1 ≤ (x0.getD i2 default))))) (pf (0 ≤ ((x0.getD i2 default) : Int) ∧ ((x0.getD i2 default) : Int) < ((x1.toNat : Nat) : Int)))] [] [1, 1, 6, 9, 9, 0, 9, 9, 14] (cn (((decide ((x0.getD i2 default) < 0)) || (decide (x1 ≤ (x0.getD i2 default)))) || (decide (0 ≤ (v2.getD ((x0.getD i2 default).toNat) default)))) (r0 1 [1, 4, 5, 6, 8, 9, 25, 26, 27] [30006] (rt [(0, none)] (C114 (([] : List Int), false)))) (.reg 1 [] [(4, stC 30006 (cInt .i64) x1.toNat v2 ((x0.getD i2 default).toNat) ((i2 : Nat) : Int))] [1, 4, 5, 6, 25, 26, 27] [30006] [] [pf (0 ≤ ((x0.getD i2 default) : Int) ∧ ((x0.getD i2 default) : Int) < ((x1.toNat : Nat) : Int))] [] [0, 4] (r1 1 [1, 4, 5, 6, 25, 26, 27] [30006] [pf (inR .i64 (((i2 : Nat) : Int) + 1))] [0] (.next 0 [(30006, some 30006)] (D114b2 x0 x1 i1 v1 (i2 + 1) (v2.set ((x0.getD i2 default).toNat) ((i2 : Nat) : Int))))))))) (r0 1 [4, 5] [30006] (.co false 30006 v2.length (rowOf (cInt .i64) v2) [lnP (rowOf (cInt .i64) v2) x1.toNat v2.length] [] 0 (rt [(0, some 30006)] (C114 (v2, true))))))
def A114b1 (x0 : List Int) (x1 : Int) (i1 : Nat) (v1 : (List Int)) : Ann := r0 1 [0, 1, 4, 5, 6, 13, 14, 15] [20006] (cn (decide (((i1 : Nat) : Int) < ((x1.toNat : Nat) : Int))) (r0 1 [0, 1, 4, 5, 6, 7, 13, 14] [20006] (.reg 1 [] [(3, stC 20006 (cInt .i64) x1.toNat v1 i1 (-1))] [0, 1, 4, 5, 6, 13, 14] [20006] [] [pf (0 ≤ (((i1 : Nat) : Int) : Int) ∧ (((i1 : Nat) : Int) : Int) < ((x1.toNat : Nat) : Int))] [] [0, 4] (r1 1 [0, 1, 4, 5, 6, 13, 14] [20006] [pf (inR .i64 (((i1 : Nat) : Int) + 1))] [0] (.next 0 [(20006, some 20006)] (D114b1 x0 x1 (i1 + 1) (v1.set i1 (-1))))))) (r0 1 [0, 1, 4, 5, 6, 24] [20006] (cn (!decide (((x0.length : Nat) : Int) = x1)) (r0 1 [0, 1, 4, 5, 6] [20006] (rt [(0, none)] (C114 (([] : List Int), false)))) (r0 1 [1, 4, 5, 6, 25, 26, 27] [20006] (lp (D114b2 x0 x1 i1 v1) [] [20006] [(30006, some 20006)] (D114b2 x0 x1 i1 v1 0 v1) (A114b2 x0 x1 i1 v1))))))
def A114 (x0 : List Int) (x1 : Int) : Ann := .reg 2 [] [(1001, msC 11 (cInt .i64) 8 x1 x1 x1.toNat (default : Int) (rfl))] [0, 1, 4, 5, 6] [11] [] [] [] [0] (r0 1 [0, 1, 4, 5, 6, 13, 14] [11] (lp (D114b1 x0 x1) [] [11] [(20006, some 11)] (D114b1 x0 x1 0 (List.replicate x1.toNat (default : Int))) (A114b1 x0 x1)))
theorem ok_spec_l1Inverse (x0 : List Int) (x1 : Int) (hx : x0.length ≤ 1048576) (hn : 0 ≤ x1 ∧ x1 ≤ 1048576) : FnT Try.prog 114 [.ro false 1 x0.length (rowOf (cInt .i64) x0), .int .i64 x1] (C114 (l1Inverse x0 x1)) := by
  have aux : ∀ R, l1Inverse x0 x1 = R → slim (C114 R) (A114 x0 x1) [] := by
    intro R hR
    refine rg ⟨by (intros; omega), trivial⟩ ?_
    refine rg trivial ?_
    revert hR; refine lN (fun i v => v.length = x1.toNat) (by (simp only [List.length_replicate])) rfl fun i1 v1 F1 hn1 hI1 hR hK1 => ?_
    refine rg trivial ?_
    refine ⟨fun hc1 => ?_, fun hc1 => ?_⟩
    · have hii1 : i1 < x1.toNat := by have := of_decide_eq_true hc1; omega
      replace hR := loopN_step hR hii1
      refine rg trivial ?_
      refine rg ⟨by (intros; omega), by (intros; omega), trivial⟩ ?_
      refine rg ⟨by ( intros; simp only [inR]; omega), trivial⟩ ?_
      exact hK1 (v1.set i1 (-1)) hii1 (by (simp only [List.length_set]; omega)) hR
    · obtain rfl : i1 = x1.toNat := by have := of_decide_eq_false hc1; omega
      replace hR := loopN_end hR (Nat.lt_irrefl _)
      refine rg trivial ?_
      revert hR; refine cd (fun hc2 hR => ?_) fun hc2 hR => ?_
      ·
        refine rg trivial ?_
        exact congrArg C114 hR
      ·
        refine rg trivial ?_
        revert hR; refine lN (fun i v => v.length = x1.toNat) (by trivial) rfl fun i2 v2 F2 hn2 hI2 hR hK2 => ?_
        refine rg trivial ?_
        refine ⟨fun hc3 => ?_, fun hc3 => ?_⟩
        · have hii2 : i2 < x0.length := by have := of_decide_eq_true hc3; omega
          replace hR := loopN_step hR hii2
          refine rg ⟨by (intros; omega), trivial⟩ ?_
          refine rg ⟨by (simp only [decide_eq_true_eq, decide_eq_false_iff_not, Bool.or_eq_true, Bool.and_eq_true, or_f_iff, not_f_iff, not_t_iff, Bool.not_eq_true'] at *; omega), trivial⟩ ?_
          revert hR; refine cd (fun hc4 hR => ?_) fun hc4 hR => ?_
          ·
            refine rg trivial ?_
            exact congrArg C114 hR
          ·
            refine rg ⟨by (simp only [decide_eq_true_eq, decide_eq_false_iff_not, Bool.or_eq_true, Bool.and_eq_true, or_f_iff, not_f_iff, not_t_iff, Bool.not_eq_true'] at *; omega), by (simp only [decide_eq_true_eq, decide_eq_false_iff_not, Bool.or_eq_true, Bool.and_eq_true, or_f_iff, not_f_iff, not_t_iff, Bool.not_eq_true'] at *; omega), trivial⟩ ?_
            refine rg ⟨by ( intros; simp only [inR]; omega), trivial⟩ ?_
            exact hK2 (v2.set ((x0.getD i2 default).toNat) ((i2 : Nat) : Int)) hii2 (by (simp only [List.length_set]; omega)) hR
        · obtain rfl : i2 = x0.length := by have := of_decide_eq_false hc3; omega
          replace hR := loopN_end hR (Nat.lt_irrefl _)
          refine rg trivial ?_
          refine og (by (intros; omega)) ?_
          exact congrArg C114 hR
  exact Fn.go 52 Try.func114 (by kernel_rfl) (by kernel_rfl) (by simp [C114, Frs, FrsL, FrsB, rowOf, cInt, cBool, cStr, cSl, FrsL_app, cPerson, cUnion, cFamily]) (A114 x0 x1) (by kernel_rfl) (aux _ rfl)
def k114 (x0 : List Int) (x1 : Int) : Cl := (hres (C114 (l1Inverse x0 x1)), k2 (ok_spec_l1Inverse x0 x1))
def C103 (R : Bool) : LV × List (Nat × BC) := (.bool R, [])
def specIsPerm (x0 : List Int) : Bool := (l1Inverse x0 ((x0.length : Nat) : Int)).2
def A103 (x0 : List Int) : Ann := .reg 3 [] [(1003, k114 x0 ((x0.length : Nat) : Int))] [2] [] [] [] [] [0] (rt [] (C103 ((l1Inverse x0 ((x0.length : Nat) : Int)).2)))
theorem ok_spec_IsPermutation (x0 : List Int) (hx : x0.length ≤ 1048576) : FnT Try.prog 103 [.ro false 1 x0.length (rowOf (cInt .i64) x0)] (C103 (specIsPerm x0)) := by
  have aux : ∀ R, specIsPerm x0 = R → slim (C103 R) (A103 x0) [] := by
    intro R hR
    refine rg ⟨⟨by trivial, by (intros; omega)⟩, trivial⟩ ?_
    exact congrArg C103 hR
  exact Fn.go 13 Try.func103 (by kernel_rfl) (by kernel_rfl) (by simp [C103, Frs, FrsL]) (A103 x0) (by kernel_rfl) (aux _ rfl)
def k103 (x0 : List Int) : Cl := (hres (C103 (specIsPerm x0)), k1 (ok_spec_IsPermutation x0))
def C104 (R : Bool) : LV × List (Nat × BC) := (.bool R, [])
def implIsPerm (x0 : List Int) : Bool := loopN (fun i1 (v1 : (List Bool)) next => bif (((decide ((x0.getD i1 default) < 0)) || (decide (((x0.length : Nat) : Int) ≤ (x0.getD i1 default)))) || (v1.getD ((x0.getD i1 default).toNat) default)) then false else (next (v1.set ((x0.getD i1 default).toNat) true))) (fun (v1 : (List Bool)) => true) x0.length 0 (List.replicate x0.length (default : Bool))
def D104b1 (x0 : List Int) (i1 : Nat) (v1 : (List Bool)) : Dl := ⟨[(11, .int .i64 ((i1 : Nat) : Int)), (3, .own 20003)], [(20003, .arr 1 x0.length (rowOf (cBool) v1))]⟩
def A104b1 (x0 : List Int) (i1 : Nat) (v1 : (List Bool)) : Ann := r0 1 [0, 2, 3, 9, 10, 11, 12] [20003] (cn (decide (((i1 : Nat) : Int) < ((x0.length : Nat) : Int))) (r1 1 [0, 2, 3, 5, 9, 10, 11] [20003] [pf (0 ≤ (((i1 : Nat) : Int) : Int) ∧ (((i1 : Nat) : Int) : Int) < ((x0.length : Nat) : Int))] [0] (.reg 1 [] [] [0, 2, 3, 5, 9, 10, 11, 28] [20003] [!(decide ((x0.getD i1 default) < 0)), decide ((x0.getD i1 default) < 0), !((decide ((x0.getD i1 default) < 0)) || (decide (((x0.length : Nat) : Int) ≤ (x0.getD i1 default)))), (decide ((x0.getD i1 default) < 0)) || (decide (((x0.length : Nat) : Int) ≤ (x0.getD i1 default)))] [gt (!((decide ((x0.getD i1 default) < 0)) || (decide (((x0.length : Nat) : Int) ≤ (x0.getD i1 default))))) (pf (0 ≤ ((x0.getD i1 default) : Int) ∧ ((x0.getD i1 default) : Int) < ((x0.length : Nat) : Int)))] [] [1, 1, 1, 6, 9, 9, 0, 9, 14] (cn (((decide ((x0.getD i1 default) < 0)) || (decide (((x0.length : Nat) : Int) ≤ (x0.getD i1 default)))) || (v1.getD ((x0.getD i1 default).toNat) default)) (r0 1 [0, 2, 3, 5, 9, 10, 11] [20003] (rt [] (C104 false))) (.reg 1 [] [(3, stC 20003 (cBool) x0.length v1 ((x0.getD i1 default).toNat) true)] [0, 2, 3, 9, 10, 11] [20003] [] [pf (0 ≤ ((x0.getD i1 default) : Int) ∧ ((x0.getD i1 default) : Int) < ((x0.length : Nat) : Int))] [] [0, 4] (r1 1 [0, 2, 3, 9, 10, 11] [20003] [pf (inR .i64 (((i1 : Nat) : Int) + 1))] [0] (.next 0 [(20003, some 20003)] (D104b1 x0 (i1 + 1) (v1.set ((x0.getD i1 default).toNat) true)))))))) (r0 1 [2] [] (rt [] (C104 true))))
def A104 (x0 : List Int) : Ann := .reg 2 [] [(1002, msC 8 (cBool) 1 ((x0.length : Nat) : Int) ((x0.length : Nat) : Int) x0.length (default : Bool) (rfl))] [0, 2, 3] [8] [] [] [] [0] (r0 1 [0, 2, 3, 9, 10, 11] [8] (lp (D104b1 x0) [] [8] [(20003, some 8)] (D104b1 x0 0 (List.replicate x0.length (default : Bool))) (A104b1 x0)))
theorem ok_impl_IsPermutation (x0 : List Int) (hx : x0.length ≤ 1048576) : FnT Try.prog 104 [.ro false 1 x0.length (rowOf (cInt .i64) x0)] (C104 (implIsPerm x0)) := by
  have aux : ∀ R, implIsPerm x0 = R → slim (C104 R) (A104 x0) [] := by
    intro R hR
    refine rg ⟨by (intros; omega), trivial⟩ ?_
    refine rg trivial ?_
    revert hR; refine lN (fun i v => v.length = x0.length) (by ((try clear hR); intros; (try simp only [decide_eq_true_eq, decide_eq_false_iff_not, Bool.or_eq_true, Bool.and_eq_true, or_f_iff, not_f_iff, not_t_iff, Bool.not_eq_true', inR] at *); (repeat' apply And.intro) <;> (simp_all [inR]; done))) rfl fun i1 v1 F1 hn1 hI1 hR hK1 => ?_
    refine rg trivial ?_
    refine ⟨fun hc1 => ?_, fun hc1 => ?_⟩
    · have hii1 : i1 < x0.length := by have := of_decide_eq_true hc1; omega
      replace hR := loopN_step hR hii1
      refine rg ⟨by (intros; omega), trivial⟩ ?_
      refine rg ⟨by (simp only [decide_eq_true_eq, decide_eq_false_iff_not, Bool.or_eq_true, Bool.and_eq_true, or_f_iff, not_f_iff, not_t_iff, Bool.not_eq_true'] at *; omega), trivial⟩ ?_
      revert hR; refine cd (fun hc2 hR => ?_) fun hc2 hR => ?_
      ·
        refine rg trivial ?_
        exact congrArg C104 hR
      ·
        refine rg ⟨by (simp only [decide_eq_true_eq, decide_eq_false_iff_not, Bool.or_eq_true, Bool.and_eq_true, or_f_iff, not_f_iff, not_t_iff, Bool.not_eq_true'] at *; omega), by (simp only [decide_eq_true_eq, decide_eq_false_iff_not, Bool.or_eq_true, Bool.and_eq_true, or_f_iff, not_f_iff, not_t_iff, Bool.not_eq_true'] at *; omega), trivial⟩ ?_
        refine rg ⟨by ( intros; simp only [inR]; omega), trivial⟩ ?_
        exact hK1 (v1.set ((x0.getD i1 default).toNat) true) hii1 (by (simp only [List.length_set]; omega)) hR
    · obtain rfl : i1 = x0.length := by have := of_decide_eq_false hc1; omega
      replace hR := loopN_end hR (Nat.lt_irrefl _)
      refine rg trivial ?_
      exact congrArg C104 hR
  exact Fn.go 33 Try.func104 (by kernel_rfl) (by kernel_rfl) (by simp [C104, Frs, FrsL]) (A104 x0) (by kernel_rfl) (aux _ rfl)
def k104 (x0 : List Int) : Cl := (hres (C104 (implIsPerm x0)), k1 (ok_impl_IsPermutation x0))
def C79 (R : Bool) : LV × List (Nat × BC) := (.bool R, [])
def specIsClasses (x0 : Classes) : Bool := (((l1In ((x0.wife.length : Nat) : Int) 1 8) && (decide (((x0.wife.length : Nat) : Int) = ((x0.child.length : Nat) : Int)))) && (specIsPerm x0.wife)) && (specIsPerm x0.child)
def A79 (x0 : Classes) : Ann := .reg 2 [] [(1003, k80 ((x0.wife.length : Nat) : Int) 1 8), (1016, cg ((l1In ((x0.wife.length : Nat) : Int) 1 8) && (decide (((x0.wife.length : Nat) : Int) = ((x0.child.length : Nat) : Int)))) (k103 x0.wife)), (1021, cg (((l1In ((x0.wife.length : Nat) : Int) 1 8) && (decide (((x0.wife.length : Nat) : Int) = ((x0.child.length : Nat) : Int)))) && (specIsPerm x0.wife)) (k103 x0.child))] [2] [] [l1In ((x0.wife.length : Nat) : Int) 1 8, (l1In ((x0.wife.length : Nat) : Int) 1 8) && (decide (((x0.wife.length : Nat) : Int) = ((x0.child.length : Nat) : Int))), ((l1In ((x0.wife.length : Nat) : Int) 1 8) && (decide (((x0.wife.length : Nat) : Int) = ((x0.child.length : Nat) : Int)))) && (specIsPerm x0.wife)] [] [] [0, 1, 1, 1, 1, 1, 1, 1, 5, 5, 4, 5, 9, 9, 8, 9] (rt [] (C79 ((((l1In ((x0.wife.length : Nat) : Int) 1 8) && (decide (((x0.wife.length : Nat) : Int) = ((x0.child.length : Nat) : Int)))) && (specIsPerm x0.wife)) && (specIsPerm x0.child))))
theorem ok_spec_IsClasses (x0 : Classes) (hw : x0.wife.length ≤ 1048576 ∧ x0.child.length ≤ 1048576) : FnT Try.prog 79 [.agg (cClasses false x0)] (C79 (specIsClasses x0)) := by
  have aux : ∀ R, specIsClasses x0 = R → slim (C79 R) (A79 x0) [] := by
    intro R hR
    refine rg ⟨trivial, fun hg0 => by (intros; omega), fun hg0 => by (intros; omega), trivial⟩ ?_
    exact congrArg C79 hR
  exact Fn.go 26 Try.func79 (by kernel_rfl) (by kernel_rfl) (by simp [C79, Frs, FrsL]) (A79 x0) (by kernel_rfl) (aux _ rfl)
def k79 (x0 : Classes) : Cl := (hres (C79 (specIsClasses x0)), k1 (ok_spec_IsClasses x0))
def C81 (R : Bool) : LV × List (Nat × BC) := (.bool R, [])
def implIsClasses (x0 : Classes) : Bool := ((((decide (1 ≤ ((x0.wife.length : Nat) : Int))) && (decide (((x0.wife.length : Nat) : Int) ≤ 8))) && (decide (((x0.child.length : Nat) : Int) = ((x0.wife.length : Nat) : Int)))) && (implIsPerm x0.wife)) && (implIsPerm x0.child)
def A81 (x0 : Classes) : Ann := .reg 3 [] [(2016, cg (((decide (1 ≤ ((x0.wife.length : Nat) : Int))) && (decide (((x0.wife.length : Nat) : Int) ≤ 8))) && (decide (((x0.child.length : Nat) : Int) = ((x0.wife.length : Nat) : Int)))) (k104 x0.wife)), (2021, cg ((((decide (1 ≤ ((x0.wife.length : Nat) : Int))) && (decide (((x0.wife.length : Nat) : Int) ≤ 8))) && (decide (((x0.child.length : Nat) : Int) = ((x0.wife.length : Nat) : Int)))) && (implIsPerm x0.wife)) (k104 x0.child))] [2] [] [decide (1 ≤ ((x0.wife.length : Nat) : Int)), (decide (1 ≤ ((x0.wife.length : Nat) : Int))) && (decide (((x0.wife.length : Nat) : Int) ≤ 8)), ((decide (1 ≤ ((x0.wife.length : Nat) : Int))) && (decide (((x0.wife.length : Nat) : Int) ≤ 8))) && (decide (((x0.child.length : Nat) : Int) = ((x0.wife.length : Nat) : Int))), (((decide (1 ≤ ((x0.wife.length : Nat) : Int))) && (decide (((x0.wife.length : Nat) : Int) ≤ 8))) && (decide (((x0.child.length : Nat) : Int) = ((x0.wife.length : Nat) : Int)))) && (implIsPerm x0.wife)] [] [] [1, 1, 5, 5, 5, 5, 5, 9, 9, 0, 9, 13, 13, 4, 13] (rt [] (C81 (((((decide (1 ≤ ((x0.wife.length : Nat) : Int))) && (decide (((x0.wife.length : Nat) : Int) ≤ 8))) && (decide (((x0.child.length : Nat) : Int) = ((x0.wife.length : Nat) : Int)))) && (implIsPerm x0.wife)) && (implIsPerm x0.child))))
theorem ok_impl_IsClasses (x0 : Classes) (hw : x0.wife.length ≤ 1048576 ∧ x0.child.length ≤ 1048576) : FnT Try.prog 81 [.agg (cClasses false x0)] (C81 (implIsClasses x0)) := by
  have aux : ∀ R, implIsClasses x0 = R → slim (C81 R) (A81 x0) [] := by
    intro R hR
    refine rg ⟨fun hg0 => by (intros; omega), fun hg0 => by (intros; omega), trivial⟩ ?_
    exact congrArg C81 hR
  exact Fn.go 30 Try.func81 (by kernel_rfl) (by kernel_rfl) (by simp [C81, Frs, FrsL]) (A81 x0) (by kernel_rfl) (aux _ rfl)
def k81 (x0 : Classes) : Cl := (hres (C81 (implIsClasses x0)), k1 (ok_impl_IsClasses x0))
def C52 (R : Bool) : LV × List (Nat × BC) := (.bool R, [])
def l7Given (x0 : Family) (x1 : Classes) (x2 : List Int) (x3 : Int) : Bool := bif (((!(specIsFamily x0)) || (!(specIsClasses x1))) || (!decide (((x2.length : Nat) : Int) = ((x0.people.length : Nat) : Int)))) then false else (loopN (fun i1 (v1 : Unit) next => bif (!(l1In (x2.getD i1 default) x3 (((x1.wife.length : Nat) : Int) - 1))) then false else (next ())) (fun (v1 : Unit) => true) x2.length 0 ())
def D52b1 (x0 : Family) (x1 : Classes) (x2 : List Int) (x3 : Int) (i1 : Nat) (v1 : Unit) : Dl := ⟨[(29, .int .i64 ((i1 : Nat) : Int))], []⟩
def A52b1 (x0 : Family) (x1 : Classes) (x2 : List Int) (x3 : Int) (i1 : Nat) (v1 : Unit) : Ann := r0 1 [3, 5, 8, 27, 28, 29, 30] [5] (cn (decide (((i1 : Nat) : Int) < ((x2.length : Nat) : Int))) (.reg 2 [] [(1006, k80 (x2.getD i1 default) x3 (((x1.wife.length : Nat) : Int) - 1))] [3, 5, 8, 27, 28, 29, 40] [5] [] [pf (0 ≤ (((i1 : Nat) : Int) : Int) ∧ (((i1 : Nat) : Int) : Int) < ((x2.length : Nat) : Int)), pf (inR .i64 (((x1.wife.length : Nat) : Int) - 1))] [] [0, 4, 8] (cn (!(l1In (x2.getD i1 default) x3 (((x1.wife.length : Nat) : Int) - 1))) (r0 1 [3, 5, 8, 27, 28, 29] [5] (rt [] (C52 false))) (r1 1 [3, 5, 8, 27, 28, 29] [5] [pf (inR .i64 (((i1 : Nat) : Int) + 1))] [0] (.next 0 [] (D52b1 x0 x1 x2 x3 (i1 + 1) ()))))) (r0 1 [8] [] (rt [] (C52 true))))
def A52 (x0 : Family) (x1 : Classes) (x2 : List Int) (x3 : Int) : Ann := r0 1 [2, 3, 4, 5, 8] [4, 5] (.reg 1 [] [(1, k41 x0), (5, cg (!(!(specIsFamily x0))) (k79 x1))] [2, 3, 5, 8, 26] [5] [!(!(specIsFamily x0)), !(specIsFamily x0), !((!(specIsFamily x0)) || (!(specIsClasses x1))), (!(specIsFamily x0)) || (!(specIsClasses x1))] [] [] [0, 1, 4, 1, 6, 9, 9, 9, 9, 9, 14] (cn (((!(specIsFamily x0)) || (!(specIsClasses x1))) || (!decide (((x2.length : Nat) : Int) = ((x0.people.length : Nat) : Int)))) (r0 1 [2, 3, 5, 8] [5] (rt [] (C52 false))) (r0 1 [3, 5, 8, 27, 28, 29] [5] (lp (D52b1 x0 x1 x2 x3) [] [] [] (D52b1 x0 x1 x2 x3 0 ()) (A52b1 x0 x1 x2 x3)))))
theorem ok_spec_l7Given (x0 : Family) (x1 : Classes) (x2 : List Int) (x3 : Int) (hx : x0.people.length ≤ 1048576) (hu : x0.unions.length ≤ 1048576) (hn : ∀ p ∈ x0.people, p.name.length ≤ 1048576) (hw : x1.wife.length ≤ 1048576 ∧ x1.child.length ≤ 1048576) (hg : x2.length ≤ 1048576) : FnT Try.prog 52 [.agg (cFamily false x0), .agg (cClasses false x1), .ro false 1 x2.length (rowOf (cInt .i64) x2), .int .i64 x3] (C52 (l7Given x0 x1 x2 x3)) := by
  have aux : ∀ R, l7Given x0 x1 x2 x3 = R → slim (C52 R) (A52 x0 x1 x2 x3) [] := by
    intro R hR
    refine rg trivial ?_
    refine rg ⟨⟨by trivial, by trivial, by trivial⟩, fun hg0 => by trivial, trivial⟩ ?_
    revert hR; refine cd (fun hc1 hR => ?_) fun hc1 hR => ?_
    ·
      refine rg trivial ?_
      exact congrArg C52 hR
    ·
      refine rg trivial ?_
      revert hR; refine lN (fun i v => True) (by trivial) rfl fun i1 v1 F1 hn1 hI1 hR hK1 => ?_
      refine rg trivial ?_
      refine ⟨fun hc2 => ?_, fun hc2 => ?_⟩
      · have hii1 : i1 < x2.length := by have := of_decide_eq_true hc2; omega
        replace hR := loopN_step hR hii1
        refine rg ⟨by (intros; omega), by ( intros; simp only [inR]; omega), trivial, trivial⟩ ?_
        revert hR; refine cd (fun hc3 hR => ?_) fun hc3 hR => ?_
        ·
          refine rg trivial ?_
          exact congrArg C52 hR
        ·
          refine rg ⟨by ( intros; simp only [inR]; omega), trivial⟩ ?_
          exact hK1 () hii1 (by trivial) hR
      · obtain rfl : i1 = x2.length := by have := of_decide_eq_false hc2; omega
        replace hR := loopN_end hR (Nat.lt_irrefl _)
        refine rg trivial ?_
        exact congrArg C52 hR
  exact Fn.go 42 Try.func52 (by kernel_rfl) (by kernel_rfl) (by simp [C52, Frs, FrsL]) (A52 x0 x1 x2 x3) (by kernel_rfl) (aux _ rfl)
def k52 (x0 : Family) (x1 : Classes) (x2 : List Int) (x3 : Int) : Cl := (hres (C52 (l7Given x0 x1 x2 x3)), k5 (ok_spec_l7Given x0 x1 x2 x3))
def C55 (R : Bool) : LV × List (Nat × BC) := (.bool R, [])
def areGiven (x0 : Family) (x1 : Classes) (x2 : List Int) (x3 : Int) : Bool := bif (((!(implIsFamily x0)) || (!(implIsClasses x1))) || (!decide (((x2.length : Nat) : Int) = ((x0.people.length : Nat) : Int)))) then false else (loopN (fun i1 (v1 : Unit) next => bif ((decide ((x2.getD i1 default) < x3)) || (decide (((x1.wife.length : Nat) : Int) ≤ (x2.getD i1 default)))) then false else (next ())) (fun (v1 : Unit) => true) x2.length 0 ())
def D55b1 (x0 : Family) (x1 : Classes) (x2 : List Int) (x3 : Int) (i1 : Nat) (v1 : Unit) : Dl := ⟨[(29, .int .i64 ((i1 : Nat) : Int))], []⟩
def A55b1 (x0 : Family) (x1 : Classes) (x2 : List Int) (x3 : Int) (i1 : Nat) (v1 : Unit) : Ann := r0 1 [3, 5, 8, 27, 28, 29, 30] [5] (cn (decide (((i1 : Nat) : Int) < ((x2.length : Nat) : Int))) (.reg 2 [] [] [3, 5, 8, 27, 28, 29, 42] [5] [!(decide ((x2.getD i1 default) < x3)), decide ((x2.getD i1 default) < x3)] [pf (0 ≤ (((i1 : Nat) : Int) : Int) ∧ (((i1 : Nat) : Int) : Int) < ((x2.length : Nat) : Int))] [] [0, 1, 1, 1, 1, 6] (cn ((decide ((x2.getD i1 default) < x3)) || (decide (((x1.wife.length : Nat) : Int) ≤ (x2.getD i1 default)))) (r0 1 [3, 5, 8, 27, 28, 29] [5] (rt [] (C55 false))) (r1 1 [3, 5, 8, 27, 28, 29] [5] [pf (inR .i64 (((i1 : Nat) : Int) + 1))] [0] (.next 0 [] (D55b1 x0 x1 x2 x3 (i1 + 1) ()))))) (r0 1 [8] [] (rt [] (C55 true))))
def A55 (x0 : Family) (x1 : Classes) (x2 : List Int) (x3 : Int) : Ann := r0 1 [2, 3, 4, 5, 8] [4, 5] (.reg 1 [] [(1, k44 x0), (5, cg (!(!(implIsFamily x0))) (k81 x1))] [2, 3, 5, 8, 26] [5] [!(!(implIsFamily x0)), !(implIsFamily x0), !((!(implIsFamily x0)) || (!(implIsClasses x1))), (!(implIsFamily x0)) || (!(implIsClasses x1))] [] [] [0, 1, 4, 1, 6, 9, 9, 9, 9, 9, 14] (cn (((!(implIsFamily x0)) || (!(implIsClasses x1))) || (!decide (((x2.length : Nat) : Int) = ((x0.people.length : Nat) : Int)))) (r0 1 [2, 3, 5, 8] [5] (rt [] (C55 false))) (r0 1 [3, 5, 8, 27, 28, 29] [5] (lp (D55b1 x0 x1 x2 x3) [] [] [] (D55b1 x0 x1 x2 x3 0 ()) (A55b1 x0 x1 x2 x3)))))
theorem ok_impl_areGiven (x0 : Family) (x1 : Classes) (x2 : List Int) (x3 : Int) (hx : x0.people.length ≤ 1048576) (hu : x0.unions.length ≤ 1048576) (hn : ∀ p ∈ x0.people, p.name.length ≤ 1048576) (hw : x1.wife.length ≤ 1048576 ∧ x1.child.length ≤ 1048576) (hg : x2.length ≤ 1048576) : FnT Try.prog 55 [.agg (cFamily false x0), .agg (cClasses false x1), .ro false 1 x2.length (rowOf (cInt .i64) x2), .int .i64 x3] (C55 (areGiven x0 x1 x2 x3)) := by
  have aux : ∀ R, areGiven x0 x1 x2 x3 = R → slim (C55 R) (A55 x0 x1 x2 x3) [] := by
    intro R hR
    refine rg trivial ?_
    refine rg ⟨⟨by trivial, by trivial, by trivial⟩, fun hg0 => by trivial, trivial⟩ ?_
    revert hR; refine cd (fun hc1 hR => ?_) fun hc1 hR => ?_
    ·
      refine rg trivial ?_
      exact congrArg C55 hR
    ·
      refine rg trivial ?_
      revert hR; refine lN (fun i v => True) (by trivial) rfl fun i1 v1 F1 hn1 hI1 hR hK1 => ?_
      refine rg trivial ?_
      refine ⟨fun hc2 => ?_, fun hc2 => ?_⟩
      · have hii1 : i1 < x2.length := by have := of_decide_eq_true hc2; omega
        replace hR := loopN_step hR hii1
        refine rg ⟨by (intros; omega), trivial⟩ ?_
        revert hR; refine cd (fun hc3 hR => ?_) fun hc3 hR => ?_
        ·
          refine rg trivial ?_
          exact congrArg C55 hR
        ·
          refine rg ⟨by ( intros; simp only [inR]; omega), trivial⟩ ?_
          exact hK1 () hii1 (by trivial) hR
      · obtain rfl : i1 = x2.length := by have := of_decide_eq_false hc2; omega
        replace hR := loopN_end hR (Nat.lt_irrefl _)
        refine rg trivial ?_
        exact congrArg C55 hR
  exact Fn.go 44 Try.func55 (by kernel_rfl) (by kernel_rfl) (by simp [C55, Frs, FrsL]) (A55 x0 x1 x2 x3) (by kernel_rfl) (aux _ rfl)
def k55 (x0 : Family) (x1 : Classes) (x2 : List Int) (x3 : Int) : Cl := (hres (C55 (areGiven x0 x1 x2 x3)), k5 (ok_impl_areGiven x0 x1 x2 x3))
end Go.Proofs.Ytaooopgdcneohaa
