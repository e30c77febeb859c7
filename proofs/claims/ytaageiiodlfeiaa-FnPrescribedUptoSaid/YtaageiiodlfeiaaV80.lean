import Derived.Test.YtaageiiodlfeiaaM40
set_option maxHeartbeats 4000000
set_option linter.unusedSimpArgs false
set_option linter.unusedVariables false
namespace Go.Proofs.Ytaageiiodlfeiaa
open Go Go.Lite Go.Proofs
structure Classes where
  wife : List Int
  child : List Int
  deriving Inhabited
def cClasses (fr : Bool) (x : Classes) : List LV:=cSl fr 1 (cInt .i64) x.wife ++ cSl fr 1 (cInt .i64) x.child

def C137 (R : (List Int) × Bool) : LV × List (Nat × BC):=(.tup [.own 0,.bool R.2],[(0,.arr 1 R.1.length (rowOf (cInt .i64) R.1))])
def l1Inverse (x0 : List Int) (x1 : Int) : (List Int) × Bool:=loopN (fun i1 (v1 : (List Int)) next=>next (v1.set i1 (-1))) (fun (v1 : (List Int))=>bif (!decide (((x0.length : Nat) : Int) = x1)) then (([] : List Int),false) else (loopN (fun i2 (v2 : (List Int)) next=>bif (((decide ((x0.getD i2 default) < 0)) || (decide (x1 ≤ (x0.getD i2 default)))) || (decide (0 ≤ (v2.getD ((x0.getD i2 default).toNat) default)))) then (([] : List Int),false) else (next (v2.set ((x0.getD i2 default).toNat) ((i2 : Nat) : Int)))) (fun (v2 : (List Int))=>(v2,true)) x0.length 0 v1)) x1.toNat 0 (List.replicate x1.toNat (default : Int))
def D137b1 (x0 : List Int) (x1 : Int) (i1 : Nat) (v1 : (List Int)) : Dl:=⟨[(14,.int .i64 ((i1 : Nat) : Int)),(6,.own 20006)],[(20006,.arr 1 x1.toNat (rowOf (cInt .i64) v1))]⟩
def D137b2 (x0 : List Int) (x1 : Int) (i1 : Nat) (v1 : (List Int)) (i2 : Nat) (v2 : (List Int)) : Dl:=⟨[(27,.int .i64 ((i2 : Nat) : Int)),(6,.own 30006)],[(30006,.arr 1 x1.toNat (rowOf (cInt .i64) v2))]⟩
def A137b2 (x0 : List Int) (x1 : Int) (i1 : Nat) (v1 : (List Int)) (i2 : Nat) (v2 : (List Int)) : Ann:=r0 1 [1,4,5,6,25,26,27,28] [30006] (cn (decide (((i2 : Nat) : Int) < ((x0.length : Nat) : Int))) (r1 1 [1,4,5,6,8,9,25,26,27] [30006] [pf (0 ≤ (((i2 : Nat) : Int) : Int) ∧ (((i2 : Nat) : Int) : Int) < ((x0.length : Nat) : Int))] [0] (.reg 1 [] [] [1,4,5,6,8,9,25,26,27,45] [30006] [!(decide ((x0.getD i2 default) < 0)),decide ((x0.getD i2 default) < 0),!((decide ((x0.getD i2 default) < 0)) || (decide (x1 ≤ (x0.getD i2 default)))),(decide ((x0.getD i2 default) < 0)) || (decide (x1 ≤ (x0.getD i2 default)))] [gt (!((decide ((x0.getD i2 default) < 0)) || (decide (x1 ≤ (x0.getD i2 default))))) (pf (0 ≤ ((x0.getD i2 default) : Int) ∧ ((x0.getD i2 default) : Int) < ((x1.toNat : Nat) : Int)))] [] [1,1,6,9,9,0,9,9,14] (cn (((decide ((x0.getD i2 default) < 0)) || (decide (x1 ≤ (x0.getD i2 default)))) || (decide (0 ≤ (v2.getD ((x0.getD i2 default).toNat) default)))) (r0 1 [1,4,5,6,8,9,25,26,27] [30006] (rt [(0,none)] (C137 (([] : List Int),false)))) (.reg 1 [] [(4,stC 30006 (cInt .i64) x1.toNat v2 ((x0.getD i2 default).toNat) ((i2 : Nat) : Int))] [1,4,5,6,25,26,27] [30006] [] [pf (0 ≤ ((x0.getD i2 default) : Int) ∧ ((x0.getD i2 default) : Int) < ((x1.toNat : Nat) : Int))] [] [0,4] (r1 1 [1,4,5,6,25,26,27] [30006] [pf (inR .i64 (((i2 : Nat) : Int) + 1))] [0] (.next 0 [(30006,some 30006)] (D137b2 x0 x1 i1 v1 (i2 + 1) (v2.set ((x0.getD i2 default).toNat) ((i2 : Nat) : Int))))))))) (r0 1 [4,5] [30006] (.co false 30006 v2.length (rowOf (cInt .i64) v2) [lnP (rowOf (cInt .i64) v2) x1.toNat v2.length] [] 0 (rt [(0,some 30006)] (C137 (v2,true))))))
def A137b1 (x0 : List Int) (x1 : Int) (i1 : Nat) (v1 : (List Int)) : Ann:=r0 1 [0,1,4,5,6,13,14,15] [20006] (cn (decide (((i1 : Nat) : Int) < ((x1.toNat : Nat) : Int))) (r0 1 [0,1,4,5,6,7,13,14] [20006] (.reg 1 [] [(3,stC 20006 (cInt .i64) x1.toNat v1 i1 (-1))] [0,1,4,5,6,13,14] [20006] [] [pf (0 ≤ (((i1 : Nat) : Int) : Int) ∧ (((i1 : Nat) : Int) : Int) < ((x1.toNat : Nat) : Int))] [] [0,4] (r1 1 [0,1,4,5,6,13,14] [20006] [pf (inR .i64 (((i1 : Nat) : Int) + 1))] [0] (.next 0 [(20006,some 20006)] (D137b1 x0 x1 (i1 + 1) (v1.set i1 (-1))))))) (r0 1 [0,1,4,5,6,24] [20006] (cn (!decide (((x0.length : Nat) : Int) = x1)) (r0 1 [0,1,4,5,6] [20006] (rt [(0,none)] (C137 (([] : List Int),false)))) (r0 1 [1,4,5,6,25,26,27] [20006] (lp (D137b2 x0 x1 i1 v1) [] [20006] [(30006,some 20006)] (D137b2 x0 x1 i1 v1 0 v1) (A137b2 x0 x1 i1 v1))))))
def A137 (x0 : List Int) (x1 : Int) : Ann:=.reg 2 [] [(1001,msC 11 (cInt .i64) 8 x1 x1 x1.toNat (default : Int) (rfl))] [0,1,4,5,6] [11] [] [] [] [0] (r0 1 [0,1,4,5,6,13,14] [11] (lp (D137b1 x0 x1) [] [11] [(20006,some 11)] (D137b1 x0 x1 0 (List.replicate x1.toNat (default : Int))) (A137b1 x0 x1)))
theorem ok_spec_l1Inverse (x0 : List Int) (x1 : Int) (hx : x0.length ≤ 1048576) (hn : 0 ≤ x1 ∧ x1 ≤ 1048576) : FnT Try.prog 137 [.ro false 1 x0.length (rowOf (cInt .i64) x0), .int .i64 x1] (C137 (l1Inverse x0 x1)) := by
  have aux : ∀ R, l1Inverse x0 x1 = R → slim (C137 R) (A137 x0 x1) [] := by
    intro R hR
    refine rg ⟨by (intros;omega),trivial⟩ ?_
    refine rg trivial ?_
    revert hR;refine lN (fun i v=>v.length = x1.toNat) (by (simp only [List.length_replicate])) rfl fun i1 v1 F1 hn1 hI1 hR hK1=>?_
    refine rg trivial ?_
    refine ⟨fun hc1=>?_,fun hc1=>?_⟩
    · have hii1 : i1 < x1.toNat:=by have:=of_decide_eq_true hc1;omega
      replace hR:=loopN_step hR hii1
      refine rg trivial ?_
      refine rg ⟨by (intros;omega),by (intros;omega),trivial⟩ ?_
      refine rg ⟨by ( intros;simp only [inR];omega),trivial⟩ ?_
      exact hK1 (v1.set i1 (-1)) hii1 (by (simp only [List.length_set];omega)) hR
    · obtain rfl : i1 = x1.toNat:=by have:=of_decide_eq_false hc1;omega
      replace hR:=loopN_end hR (Nat.lt_irrefl _)
      refine rg trivial ?_
      revert hR;refine cd (fun hc2 hR=>?_) fun hc2 hR=>?_
      ·
        refine rg trivial ?_
        exact congrArg C137 hR
      ·
        refine rg trivial ?_
        revert hR;refine lN (fun i v=>v.length = x1.toNat) (by trivial) rfl fun i2 v2 F2 hn2 hI2 hR hK2=>?_
        refine rg trivial ?_
        refine ⟨fun hc3=>?_,fun hc3=>?_⟩
        · have hii2 : i2 < x0.length:=by have:=of_decide_eq_true hc3;omega
          replace hR:=loopN_step hR hii2
          refine rg ⟨by (intros;omega),trivial⟩ ?_
          refine rg ⟨by (simp only [decide_eq_true_eq,decide_eq_false_iff_not,Bool.or_eq_true,Bool.and_eq_true,or_f_iff,not_f_iff,not_t_iff,Bool.not_eq_true'] at *;omega),trivial⟩ ?_
          revert hR;refine cd (fun hc4 hR=>?_) fun hc4 hR=>?_
          ·
            refine rg trivial ?_
            exact congrArg C137 hR
          ·
            refine rg ⟨by (simp only [decide_eq_true_eq,decide_eq_false_iff_not,Bool.or_eq_true,Bool.and_eq_true,or_f_iff,not_f_iff,not_t_iff,Bool.not_eq_true'] at *;omega),by (simp only [decide_eq_true_eq,decide_eq_false_iff_not,Bool.or_eq_true,Bool.and_eq_true,or_f_iff,not_f_iff,not_t_iff,Bool.not_eq_true'] at *;omega),trivial⟩ ?_
            refine rg ⟨by ( intros;simp only [inR];omega),trivial⟩ ?_
            exact hK2 (v2.set ((x0.getD i2 default).toNat) ((i2 : Nat) : Int)) hii2 (by (simp only [List.length_set];omega)) hR
        · obtain rfl : i2 = x0.length:=by have:=of_decide_eq_false hc3;omega
          replace hR:=loopN_end hR (Nat.lt_irrefl _)
          refine rg trivial ?_
          refine og (by (intros;omega)) ?_
          exact congrArg C137 hR
  exact Fn.go 52 Try.func137 (by kernel_rfl) (by kernel_rfl) (by simp [C137,Frs,FrsL,FrsB,rowOf,cInt,cBool,cStr,cSl,FrsL_app,cPerson,cUnion,cFamily]) (A137 x0 x1) (by kernel_rfl) (aux _ rfl)
def k137 (x0 : List Int) (x1 : Int) : Cl:=(hres (C137 (l1Inverse x0 x1)),k2 (ok_spec_l1Inverse x0 x1))
def C136 (R : Bool) : LV × List (Nat × BC):=(.bool R,[])
def specIsPerm (x0 : List Int) : Bool:=(l1Inverse x0 ((x0.length : Nat) : Int)).2
def A136 (x0 : List Int) : Ann:=.reg 3 [] [(1003,k137 x0 ((x0.length : Nat) : Int))] [2] [] [] [] [] [0] (rt [] (C136 ((l1Inverse x0 ((x0.length : Nat) : Int)).2)))
theorem ok_spec_IsPermutation (x0 : List Int) (hx : x0.length ≤ 1048576) : FnT Try.prog 136 [.ro false 1 x0.length (rowOf (cInt .i64) x0)] (C136 (specIsPerm x0)) := by
  have aux : ∀ R, specIsPerm x0 = R → slim (C136 R) (A136 x0) [] := by
    intro R hR
    refine rg ⟨⟨by trivial,by (intros;omega)⟩,trivial⟩ ?_
    exact congrArg C136 hR
  exact Fn.go 13 Try.func136 (by kernel_rfl) (by kernel_rfl) (by simp [C136,Frs,FrsL]) (A136 x0) (by kernel_rfl) (aux _ rfl)
def k136 (x0 : List Int) : Cl:=(hres (C136 (specIsPerm x0)),k1 (ok_spec_IsPermutation x0))
def C88 (R : Bool) : LV × List (Nat × BC):=(.bool R,[])
def implIsPerm (x0 : List Int) : Bool:=loopN (fun i1 (v1 : (List Bool)) next=>bif (((decide ((x0.getD i1 default) < 0)) || (decide (((x0.length : Nat) : Int) ≤ (x0.getD i1 default)))) || (v1.getD ((x0.getD i1 default).toNat) default)) then false else (next (v1.set ((x0.getD i1 default).toNat) true))) (fun (v1 : (List Bool))=>true) x0.length 0 (List.replicate x0.length (default : Bool))
def D88b1 (x0 : List Int) (i1 : Nat) (v1 : (List Bool)) : Dl:=⟨[(11,.int .i64 ((i1 : Nat) : Int)),(3,.own 20003)],[(20003,.arr 1 x0.length (rowOf (cBool) v1))]⟩
def A88b1 (x0 : List Int) (i1 : Nat) (v1 : (List Bool)) : Ann:=r0 1 [0,2,3,9,10,11,12] [20003] (cn (decide (((i1 : Nat) : Int) < ((x0.length : Nat) : Int))) (r1 1 [0,2,3,5,9,10,11] [20003] [pf (0 ≤ (((i1 : Nat) : Int) : Int) ∧ (((i1 : Nat) : Int) : Int) < ((x0.length : Nat) : Int))] [0] (.reg 1 [] [] [0,2,3,5,9,10,11,28] [20003] [!(decide ((x0.getD i1 default) < 0)),decide ((x0.getD i1 default) < 0),!((decide ((x0.getD i1 default) < 0)) || (decide (((x0.length : Nat) : Int) ≤ (x0.getD i1 default)))),(decide ((x0.getD i1 default) < 0)) || (decide (((x0.length : Nat) : Int) ≤ (x0.getD i1 default)))] [gt (!((decide ((x0.getD i1 default) < 0)) || (decide (((x0.length : Nat) : Int) ≤ (x0.getD i1 default))))) (pf (0 ≤ ((x0.getD i1 default) : Int) ∧ ((x0.getD i1 default) : Int) < ((x0.length : Nat) : Int)))] [] [1,1,1,6,9,9,0,9,14] (cn (((decide ((x0.getD i1 default) < 0)) || (decide (((x0.length : Nat) : Int) ≤ (x0.getD i1 default)))) || (v1.getD ((x0.getD i1 default).toNat) default)) (r0 1 [0,2,3,5,9,10,11] [20003] (rt [] (C88 false))) (.reg 1 [] [(3,stC 20003 (cBool) x0.length v1 ((x0.getD i1 default).toNat) true)] [0,2,3,9,10,11] [20003] [] [pf (0 ≤ ((x0.getD i1 default) : Int) ∧ ((x0.getD i1 default) : Int) < ((x0.length : Nat) : Int))] [] [0,4] (r1 1 [0,2,3,9,10,11] [20003] [pf (inR .i64 (((i1 : Nat) : Int) + 1))] [0] (.next 0 [(20003,some 20003)] (D88b1 x0 (i1 + 1) (v1.set ((x0.getD i1 default).toNat) true)))))))) (r0 1 [2] [] (rt [] (C88 true))))
def A88 (x0 : List Int) : Ann:=.reg 2 [] [(1002,msC 8 (cBool) 1 ((x0.length : Nat) : Int) ((x0.length : Nat) : Int) x0.length (default : Bool) (rfl))] [0,2,3] [8] [] [] [] [0] (r0 1 [0,2,3,9,10,11] [8] (lp (D88b1 x0) [] [8] [(20003,some 8)] (D88b1 x0 0 (List.replicate x0.length (default : Bool))) (A88b1 x0)))
theorem ok_impl_IsPermutation (x0 : List Int) (hx : x0.length ≤ 1048576) : FnT Try.prog 88 [.ro false 1 x0.length (rowOf (cInt .i64) x0)] (C88 (implIsPerm x0)) := by
  have aux : ∀ R, implIsPerm x0 = R → slim (C88 R) (A88 x0) [] := by
    intro R hR
    refine rg ⟨by (intros;omega),trivial⟩ ?_
    refine rg trivial ?_
    revert hR;refine lN (fun i v=>v.length = x0.length) (by ((try clear hR);intros;(try simp only [decide_eq_true_eq,decide_eq_false_iff_not,Bool.or_eq_true,Bool.and_eq_true,or_f_iff,not_f_iff,not_t_iff,Bool.not_eq_true',inR] at *);(repeat' apply And.intro) <;> (simp_all [inR];done))) rfl fun i1 v1 F1 hn1 hI1 hR hK1=>?_
    refine rg trivial ?_
    refine ⟨fun hc1=>?_,fun hc1=>?_⟩
    · have hii1 : i1 < x0.length:=by have:=of_decide_eq_true hc1;omega
      replace hR:=loopN_step hR hii1
      refine rg ⟨by (intros;omega),trivial⟩ ?_
      refine rg ⟨by (simp only [decide_eq_true_eq,decide_eq_false_iff_not,Bool.or_eq_true,Bool.and_eq_true,or_f_iff,not_f_iff,not_t_iff,Bool.not_eq_true'] at *;omega),trivial⟩ ?_
      revert hR;refine cd (fun hc2 hR=>?_) fun hc2 hR=>?_
      ·
        refine rg trivial ?_
        exact congrArg C88 hR
      ·
        refine rg ⟨by (simp only [decide_eq_true_eq,decide_eq_false_iff_not,Bool.or_eq_true,Bool.and_eq_true,or_f_iff,not_f_iff,not_t_iff,Bool.not_eq_true'] at *;omega),by (simp only [decide_eq_true_eq,decide_eq_false_iff_not,Bool.or_eq_true,Bool.and_eq_true,or_f_iff,not_f_iff,not_t_iff,Bool.not_eq_true'] at *;omega),trivial⟩ ?_
        refine rg ⟨by ( intros;simp only [inR];omega),trivial⟩ ?_
        exact hK1 (v1.set ((x0.getD i1 default).toNat) true) hii1 (by (simp only [List.length_set];omega)) hR
    · obtain rfl : i1 = x0.length:=by have:=of_decide_eq_false hc1;omega
      replace hR:=loopN_end hR (Nat.lt_irrefl _)
      refine rg trivial ?_
      exact congrArg C88 hR
  exact Fn.go 33 Try.func88 (by kernel_rfl) (by kernel_rfl) (by simp [C88,Frs,FrsL]) (A88 x0) (by kernel_rfl) (aux _ rfl)
def k88 (x0 : List Int) : Cl:=(hres (C88 (implIsPerm x0)),k1 (ok_impl_IsPermutation x0))
def C82 (R : Bool) : LV × List (Nat × BC):=(.bool R,[])
def specIsClasses (x0 : Classes) : Bool:=(((l1In ((x0.wife.length : Nat) : Int) 1 8) && (decide (((x0.wife.length : Nat) : Int) = ((x0.child.length : Nat) : Int)))) && (specIsPerm x0.wife)) && (specIsPerm x0.child)
def A82 (x0 : Classes) : Ann:=.reg 2 [] [(1003,k83 ((x0.wife.length : Nat) : Int) 1 8),(1016,cg ((l1In ((x0.wife.length : Nat) : Int) 1 8) && (decide (((x0.wife.length : Nat) : Int) = ((x0.child.length : Nat) : Int)))) (k136 x0.wife)),(1021,cg (((l1In ((x0.wife.length : Nat) : Int) 1 8) && (decide (((x0.wife.length : Nat) : Int) = ((x0.child.length : Nat) : Int)))) && (specIsPerm x0.wife)) (k136 x0.child))] [2] [] [l1In ((x0.wife.length : Nat) : Int) 1 8,(l1In ((x0.wife.length : Nat) : Int) 1 8) && (decide (((x0.wife.length : Nat) : Int) = ((x0.child.length : Nat) : Int))),((l1In ((x0.wife.length : Nat) : Int) 1 8) && (decide (((x0.wife.length : Nat) : Int) = ((x0.child.length : Nat) : Int)))) && (specIsPerm x0.wife)] [] [] [0,1,1,1,1,1,1,1,5,5,4,5,9,9,8,9] (rt [] (C82 ((((l1In ((x0.wife.length : Nat) : Int) 1 8) && (decide (((x0.wife.length : Nat) : Int) = ((x0.child.length : Nat) : Int)))) && (specIsPerm x0.wife)) && (specIsPerm x0.child))))
theorem ok_spec_IsClasses (x0 : Classes) (hw : x0.wife.length ≤ 1048576 ∧ x0.child.length ≤ 1048576) : FnT Try.prog 82 [.agg (cClasses false x0)] (C82 (specIsClasses x0)) := by
  have aux : ∀ R, specIsClasses x0 = R → slim (C82 R) (A82 x0) [] := by
    intro R hR
    refine rg ⟨trivial,fun hg0=>by (intros;omega),fun hg0=>by (intros;omega),trivial⟩ ?_
    exact congrArg C82 hR
  exact Fn.go 26 Try.func82 (by kernel_rfl) (by kernel_rfl) (by simp [C82,Frs,FrsL]) (A82 x0) (by kernel_rfl) (aux _ rfl)
def k82 (x0 : Classes) : Cl:=(hres (C82 (specIsClasses x0)),k1 (ok_spec_IsClasses x0))
def C42 (R : Bool) : LV × List (Nat × BC):=(.bool R,[])
def implIsClasses (x0 : Classes) : Bool:=((((decide (1 ≤ ((x0.wife.length : Nat) : Int))) && (decide (((x0.wife.length : Nat) : Int) ≤ 8))) && (decide (((x0.child.length : Nat) : Int) = ((x0.wife.length : Nat) : Int)))) && (implIsPerm x0.wife)) && (implIsPerm x0.child)
def A42 (x0 : Classes) : Ann:=.reg 3 [] [(2016,cg (((decide (1 ≤ ((x0.wife.length : Nat) : Int))) && (decide (((x0.wife.length : Nat) : Int) ≤ 8))) && (decide (((x0.child.length : Nat) : Int) = ((x0.wife.length : Nat) : Int)))) (k88 x0.wife)),(2021,cg ((((decide (1 ≤ ((x0.wife.length : Nat) : Int))) && (decide (((x0.wife.length : Nat) : Int) ≤ 8))) && (decide (((x0.child.length : Nat) : Int) = ((x0.wife.length : Nat) : Int)))) && (implIsPerm x0.wife)) (k88 x0.child))] [2] [] [decide (1 ≤ ((x0.wife.length : Nat) : Int)),(decide (1 ≤ ((x0.wife.length : Nat) : Int))) && (decide (((x0.wife.length : Nat) : Int) ≤ 8)),((decide (1 ≤ ((x0.wife.length : Nat) : Int))) && (decide (((x0.wife.length : Nat) : Int) ≤ 8))) && (decide (((x0.child.length : Nat) : Int) = ((x0.wife.length : Nat) : Int))),(((decide (1 ≤ ((x0.wife.length : Nat) : Int))) && (decide (((x0.wife.length : Nat) : Int) ≤ 8))) && (decide (((x0.child.length : Nat) : Int) = ((x0.wife.length : Nat) : Int)))) && (implIsPerm x0.wife)] [] [] [1,1,5,5,5,5,5,9,9,0,9,13,13,4,13] (rt [] (C42 (((((decide (1 ≤ ((x0.wife.length : Nat) : Int))) && (decide (((x0.wife.length : Nat) : Int) ≤ 8))) && (decide (((x0.child.length : Nat) : Int) = ((x0.wife.length : Nat) : Int)))) && (implIsPerm x0.wife)) && (implIsPerm x0.child))))
theorem ok_impl_IsClasses (x0 : Classes) (hw : x0.wife.length ≤ 1048576 ∧ x0.child.length ≤ 1048576) : FnT Try.prog 42 [.agg (cClasses false x0)] (C42 (implIsClasses x0)) := by
  have aux : ∀ R, implIsClasses x0 = R → slim (C42 R) (A42 x0) [] := by
    intro R hR
    refine rg ⟨fun hg0=>by (intros;omega),fun hg0=>by (intros;omega),trivial⟩ ?_
    exact congrArg C42 hR
  exact Fn.go 30 Try.func42 (by kernel_rfl) (by kernel_rfl) (by simp [C42,Frs,FrsL]) (A42 x0) (by kernel_rfl) (aux _ rfl)
def k42 (x0 : Classes) : Cl:=(hres (C42 (implIsClasses x0)),k1 (ok_impl_IsClasses x0))
def C37 (R : Bool) : LV × List (Nat × BC):=(.bool R,[])
def l7Given (x0 : Family) (x1 : Classes) (x2 : List Int) (x3 : Int) : Bool:=bif (((!(specIsFamily x0)) || (!(specIsClasses x1))) || (!decide (((x2.length : Nat) : Int) = ((x0.people.length : Nat) : Int)))) then false else (loopN (fun i1 (v1 : Unit) next=>bif (!(l1In (x2.getD i1 default) x3 (((x1.wife.length : Nat) : Int) - 1))) then false else (next ())) (fun (v1 : Unit)=>true) x2.length 0 ())
def D37b1 (x0 : Family) (x1 : Classes) (x2 : List Int) (x3 : Int) (i1 : Nat) (v1 : Unit) : Dl:=⟨[(29,.int .i64 ((i1 : Nat) : Int))],[]⟩
def A37b1 (x0 : Family) (x1 : Classes) (x2 : List Int) (x3 : Int) (i1 : Nat) (v1 : Unit) : Ann:=r0 1 [3,5,8,27,28,29,30] [5] (cn (decide (((i1 : Nat) : Int) < ((x2.length : Nat) : Int))) (.reg 2 [] [(1006,k83 (x2.getD i1 default) x3 (((x1.wife.length : Nat) : Int) - 1))] [3,5,8,27,28,29,40] [5] [] [pf (0 ≤ (((i1 : Nat) : Int) : Int) ∧ (((i1 : Nat) : Int) : Int) < ((x2.length : Nat) : Int)),pf (inR .i64 (((x1.wife.length : Nat) : Int) - 1))] [] [0,4,8] (cn (!(l1In (x2.getD i1 default) x3 (((x1.wife.length : Nat) : Int) - 1))) (r0 1 [3,5,8,27,28,29] [5] (rt [] (C37 false))) (r1 1 [3,5,8,27,28,29] [5] [pf (inR .i64 (((i1 : Nat) : Int) + 1))] [0] (.next 0 [] (D37b1 x0 x1 x2 x3 (i1 + 1) ()))))) (r0 1 [8] [] (rt [] (C37 true))))
def A37 (x0 : Family) (x1 : Classes) (x2 : List Int) (x3 : Int) : Ann:=r0 1 [2,3,4,5,8] [4,5] (.reg 1 [] [(1,k81 x0),(5,cg (!(!(specIsFamily x0))) (k82 x1))] [2,3,5,8,26] [5] [!(!(specIsFamily x0)),!(specIsFamily x0),!((!(specIsFamily x0)) || (!(specIsClasses x1))),(!(specIsFamily x0)) || (!(specIsClasses x1))] [] [] [0,1,4,1,6,9,9,9,9,9,14] (cn (((!(specIsFamily x0)) || (!(specIsClasses x1))) || (!decide (((x2.length : Nat) : Int) = ((x0.people.length : Nat) : Int)))) (r0 1 [2,3,5,8] [5] (rt [] (C37 false))) (r0 1 [3,5,8,27,28,29] [5] (lp (D37b1 x0 x1 x2 x3) [] [] [] (D37b1 x0 x1 x2 x3 0 ()) (A37b1 x0 x1 x2 x3)))))
theorem ok_spec_l7Given (x0 : Family) (x1 : Classes) (x2 : List Int) (x3 : Int) (hx : x0.people.length ≤ 1048576) (hu : x0.unions.length ≤ 1048576) (hn : ∀ p ∈ x0.people, p.name.length ≤ 1048576) (hw : x1.wife.length ≤ 1048576 ∧ x1.child.length ≤ 1048576) (hg : x2.length ≤ 1048576) : FnT Try.prog 37 [.agg (cFamily false x0), .agg (cClasses false x1), .ro false 1 x2.length (rowOf (cInt .i64) x2), .int .i64 x3] (C37 (l7Given x0 x1 x2 x3)) := by
  have aux : ∀ R, l7Given x0 x1 x2 x3 = R → slim (C37 R) (A37 x0 x1 x2 x3) [] := by
    intro R hR
    refine rg trivial ?_
    refine rg ⟨⟨by trivial,by trivial,by trivial⟩,fun hg0=>by trivial,trivial⟩ ?_
    revert hR;refine cd (fun hc1 hR=>?_) fun hc1 hR=>?_
    ·
      refine rg trivial ?_
      exact congrArg C37 hR
    ·
      refine rg trivial ?_
      revert hR;refine lN (fun i v=>True) (by trivial) rfl fun i1 v1 F1 hn1 hI1 hR hK1=>?_
      refine rg trivial ?_
      refine ⟨fun hc2=>?_,fun hc2=>?_⟩
      · have hii1 : i1 < x2.length:=by have:=of_decide_eq_true hc2;omega
        replace hR:=loopN_step hR hii1
        refine rg ⟨by (intros;omega),by ( intros;simp only [inR];omega),trivial,trivial⟩ ?_
        revert hR;refine cd (fun hc3 hR=>?_) fun hc3 hR=>?_
        ·
          refine rg trivial ?_
          exact congrArg C37 hR
        ·
          refine rg ⟨by ( intros;simp only [inR];omega),trivial⟩ ?_
          exact hK1 () hii1 (by trivial) hR
      · obtain rfl : i1 = x2.length:=by have:=of_decide_eq_false hc2;omega
        replace hR:=loopN_end hR (Nat.lt_irrefl _)
        refine rg trivial ?_
        exact congrArg C37 hR
  exact Fn.go 42 Try.func37 (by kernel_rfl) (by kernel_rfl) (by simp [C37,Frs,FrsL]) (A37 x0 x1 x2 x3) (by kernel_rfl) (aux _ rfl)
def k37 (x0 : Family) (x1 : Classes) (x2 : List Int) (x3 : Int) : Cl:=(hres (C37 (l7Given x0 x1 x2 x3)),k5 (ok_spec_l7Given x0 x1 x2 x3))
def C40 (R : Bool) : LV × List (Nat × BC):=(.bool R,[])
def areGiven (x0 : Family) (x1 : Classes) (x2 : List Int) (x3 : Int) : Bool:=bif (((!(implIsFamily x0)) || (!(implIsClasses x1))) || (!decide (((x2.length : Nat) : Int) = ((x0.people.length : Nat) : Int)))) then false else (loopN (fun i1 (v1 : Unit) next=>bif ((decide ((x2.getD i1 default) < x3)) || (decide (((x1.wife.length : Nat) : Int) ≤ (x2.getD i1 default)))) then false else (next ())) (fun (v1 : Unit)=>true) x2.length 0 ())
def D40b1 (x0 : Family) (x1 : Classes) (x2 : List Int) (x3 : Int) (i1 : Nat) (v1 : Unit) : Dl:=⟨[(29,.int .i64 ((i1 : Nat) : Int))],[]⟩
def A40b1 (x0 : Family) (x1 : Classes) (x2 : List Int) (x3 : Int) (i1 : Nat) (v1 : Unit) : Ann:=r0 1 [3,5,8,27,28,29,30] [5] (cn (decide (((i1 : Nat) : Int) < ((x2.length : Nat) : Int))) (.reg 2 [] [] [3,5,8,27,28,29,42] [5] [!(decide ((x2.getD i1 default) < x3)),decide ((x2.getD i1 default) < x3)] [pf (0 ≤ (((i1 : Nat) : Int) : Int) ∧ (((i1 : Nat) : Int) : Int) < ((x2.length : Nat) : Int))] [] [0,1,1,1,1,6] (cn ((decide ((x2.getD i1 default) < x3)) || (decide (((x1.wife.length : Nat) : Int) ≤ (x2.getD i1 default)))) (r0 1 [3,5,8,27,28,29] [5] (rt [] (C40 false))) (r1 1 [3,5,8,27,28,29] [5] [pf (inR .i64 (((i1 : Nat) : Int) + 1))] [0] (.next 0 [] (D40b1 x0 x1 x2 x3 (i1 + 1) ()))))) (r0 1 [8] [] (rt [] (C40 true))))
def A40 (x0 : Family) (x1 : Classes) (x2 : List Int) (x3 : Int) : Ann:=r0 1 [2,3,4,5,8] [4,5] (.reg 1 [] [(1,k87 x0),(5,cg (!(!(implIsFamily x0))) (k42 x1))] [2,3,5,8,26] [5] [!(!(implIsFamily x0)),!(implIsFamily x0),!((!(implIsFamily x0)) || (!(implIsClasses x1))),(!(implIsFamily x0)) || (!(implIsClasses x1))] [] [] [0,1,4,1,6,9,9,9,9,9,14] (cn (((!(implIsFamily x0)) || (!(implIsClasses x1))) || (!decide (((x2.length : Nat) : Int) = ((x0.people.length : Nat) : Int)))) (r0 1 [2,3,5,8] [5] (rt [] (C40 false))) (r0 1 [3,5,8,27,28,29] [5] (lp (D40b1 x0 x1 x2 x3) [] [] [] (D40b1 x0 x1 x2 x3 0 ()) (A40b1 x0 x1 x2 x3)))))
theorem ok_impl_areGiven (x0 : Family) (x1 : Classes) (x2 : List Int) (x3 : Int) (hx : x0.people.length ≤ 1048576) (hu : x0.unions.length ≤ 1048576) (hn : ∀ p ∈ x0.people, p.name.length ≤ 1048576) (hw : x1.wife.length ≤ 1048576 ∧ x1.child.length ≤ 1048576) (hg : x2.length ≤ 1048576) : FnT Try.prog 40 [.agg (cFamily false x0), .agg (cClasses false x1), .ro false 1 x2.length (rowOf (cInt .i64) x2), .int .i64 x3] (C40 (areGiven x0 x1 x2 x3)) := by
  have aux : ∀ R, areGiven x0 x1 x2 x3 = R → slim (C40 R) (A40 x0 x1 x2 x3) [] := by
    intro R hR
    refine rg trivial ?_
    refine rg ⟨⟨by trivial,by trivial,by trivial⟩,fun hg0=>by trivial,trivial⟩ ?_
    revert hR;refine cd (fun hc1 hR=>?_) fun hc1 hR=>?_
    ·
      refine rg trivial ?_
      exact congrArg C40 hR
    ·
      refine rg trivial ?_
      revert hR;refine lN (fun i v=>True) (by trivial) rfl fun i1 v1 F1 hn1 hI1 hR hK1=>?_
      refine rg trivial ?_
      refine ⟨fun hc2=>?_,fun hc2=>?_⟩
      · have hii1 : i1 < x2.length:=by have:=of_decide_eq_true hc2;omega
        replace hR:=loopN_step hR hii1
        refine rg ⟨by (intros;omega),trivial⟩ ?_
        revert hR;refine cd (fun hc3 hR=>?_) fun hc3 hR=>?_
        ·
          refine rg trivial ?_
          exact congrArg C40 hR
        ·
          refine rg ⟨by ( intros;simp only [inR];omega),trivial⟩ ?_
          exact hK1 () hii1 (by trivial) hR
      · obtain rfl : i1 = x2.length:=by have:=of_decide_eq_false hc2;omega
        replace hR:=loopN_end hR (Nat.lt_irrefl _)
        refine rg trivial ?_
        exact congrArg C40 hR
  exact Fn.go 44 Try.func40 (by kernel_rfl) (by kernel_rfl) (by simp [C40,Frs,FrsL]) (A40 x0 x1 x2 x3) (by kernel_rfl) (aux _ rfl)
def k40 (x0 : Family) (x1 : Classes) (x2 : List Int) (x3 : Int) : Cl:=(hres (C40 (areGiven x0 x1 x2 x3)),k5 (ok_impl_areGiven x0 x1 x2 x3))
end Go.Proofs.Ytaageiiodlfeiaa
