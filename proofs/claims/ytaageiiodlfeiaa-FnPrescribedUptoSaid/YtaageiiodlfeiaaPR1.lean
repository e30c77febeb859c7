import Derived.Test.YtaageiiodlfeiaaM231
set_option maxHeartbeats 4000000
set_option linter.unusedSimpArgs false
set_option linter.unusedVariables false
namespace Go.Proofs.Ytaageiiodlfeiaa
open Go Go.Lite Go.Proofs
def C143 (R : (List Int)) : LV × List (Nat × BC):=(.own 0,[(0,.arr 1 R.length (rowOf (cInt .i64) R))])
def composedP (x0 : List Int) (x1 : List Int) : (List Int):=loopN (fun i1 (v1 : (List Int)) next=>next (v1 ++ [(x1.getD ((x0.getD i1 default).toNat) default)])) (fun (v1 : (List Int))=>v1) x0.length 0 ([] : List Int)
def D143b1 (x0 : List Int) (x1 : List Int) (i1 : Nat) (v1 : (List Int)) : Dl:=⟨[(10,.int .i64 ((i1 : Nat) : Int)),(5,.own 20005)],[(20005,.arr 1 v1.length (rowOf (cInt .i64) v1))]⟩
def A143b1 (x0 : List Int) (x1 : List Int) (i1 : Nat) (v1 : (List Int)) : Ann:=r0 1 [1,4,5,8,9,10,11] [20005] (cn (decide (((i1 : Nat) : Int) < ((x0.length : Nat) : Int))) (r1 1 [1,4,5,7,8,9,10] [20005] [pf (0 ≤ (((i1 : Nat) : Int) : Int) ∧ (((i1 : Nat) : Int) : Int) < ((x0.length : Nat) : Int))] [0] (.reg 1 [] [(5,bsC 19 (cInt .i64) ([(x1.getD ((x0.getD i1 default).toNat) default)] : List Int)),(6,ap1 20 (cInt .i64) 8 v1 (x1.getD ((x0.getD i1 default).toNat) default))] [1,4,5,8,9,10] [20] [] [pf (0 ≤ ((x0.getD i1 default) : Int) ∧ ((x0.getD i1 default) : Int) < ((x1.length : Nat) : Int))] [] [0,4,8] (r1 1 [1,4,5,8,9,10] [20] [pf (inR .i64 (((i1 : Nat) : Int) + 1))] [0] (.next 0 [(20005,some 20)] (D143b1 x0 x1 (i1 + 1) (v1 ++ [(x1.getD ((x0.getD i1 default).toNat) default)])))))) (r0 1 [4] [20005] (rt [(0,some 20005)] (C143 v1))))
def A143 (x0 : List Int) (x1 : List Int) : Ann:=r0 2 [0,1,4,5] [] (r0 1 [1,4,5,8,9,10] [] (lp (D143b1 x0 x1) [] [] [(20005,none)] (D143b1 x0 x1 0 ([] : List Int)) (A143b1 x0 x1)))
theorem ok_impl_composed (x0 : List Int) (x1 : List Int) (hl0 : x0.length ≤ 1000) (hl1 : x1.length ≤ 1000) (h : ∀ x ∈ x0, 0 ≤ x ∧ x < x1.length) : FnT Try.prog 143 [.ro false 1 x0.length (rowOf (cInt .i64) x0), .ro false 1 x1.length (rowOf (cInt .i64) x1)] (C143 (composedP x0 x1)) := by
  have aux : ∀ R, composedP x0 x1 = R → slim (C143 R) (A143 x0 x1) [] := by
    intro R hR
    refine rg trivial ?_
    refine rg trivial ?_
    revert hR;refine lN (fun i v=>(v : List Int).length ≤ i) (by trivial) rfl fun i1 v1 F1 hn1 hI1 hR hK1=>?_
    refine rg trivial ?_
    refine ⟨fun hc1=>?_,fun hc1=>?_⟩
    · have hii1 : i1 < x0.length:=by have:=of_decide_eq_true hc1;omega
      replace hR:=loopN_step hR hii1
      refine rg ⟨by (intros;omega),trivial⟩ ?_
      refine rg ⟨by (have h9:=h _ (getD_mem (d:=default) hii1);omega),trivial,by omega,trivial⟩ ?_
      refine rg ⟨by ( intros;simp only [inR];omega),trivial⟩ ?_
      exact hK1 (v1 ++ [(x1.getD ((x0.getD i1 default).toNat) default)]) hii1 (by ((try clear hR hK1);intros;(try simp only [decide_eq_true_eq,decide_eq_false_iff_not,Bool.or_eq_true,Bool.and_eq_true,or_f_iff,not_f_iff,not_t_iff,Bool.not_eq_true',inR] at *);(repeat' apply And.intro) <;> (simp_all [inR];done))) hR
    · obtain rfl : i1 = x0.length:=by have:=of_decide_eq_false hc1;omega
      replace hR:=loopN_end hR (Nat.lt_irrefl _)
      refine rg trivial ?_
      exact congrArg C143 hR
  exact Fn.go 23 Try.func143 (by kernel_rfl) (by kernel_rfl) (by simp [C143,Frs,FrsL,FrsB,rowOf,cInt,cBool,cStr,cSl,FrsL_app,cPerson,cUnion,cFamily,cClasses,cl01Cur,cStep,cKinType,cRule]) (A143 x0 x1) (by kernel_rfl) (aux _ rfl)
def k143 (x0 : List Int) (x1 : List Int) : Cl:=(hres (C143 (composedP x0 x1)),k3 (ok_impl_composed x0 x1))
def C84 (R : (List Int)) : LV × List (Nat × BC):=(.own 0,[(0,.arr 1 R.length (rowOf (cInt .i64) R))])
def l6Compose (x0 : List Int) (x1 : List Int) : (List Int):=loopN (fun i1 (v1 : (List Int)) next=>next (v1 ++ [(x1.getD ((x0.getD i1 default).toNat) default)])) (fun (v1 : (List Int))=>v1) x0.length 0 ([] : List Int)
def D84b1 (x0 : List Int) (x1 : List Int) (i1 : Nat) (v1 : (List Int)) : Dl:=⟨[(11,.int .i64 ((i1 : Nat) : Int)),(5,.own 20005)],[(20005,.arr 1 v1.length (rowOf (cInt .i64) v1))]⟩
def A84b1 (x0 : List Int) (x1 : List Int) (i1 : Nat) (v1 : (List Int)) : Ann:=r0 1 [1,4,5,9,10,11,12] [20005] (cn (decide (((i1 : Nat) : Int) < ((x0.length : Nat) : Int))) (r1 1 [1,4,5,7,9,10,11] [20005] [pf (0 ≤ (((i1 : Nat) : Int) : Int) ∧ (((i1 : Nat) : Int) : Int) < ((x0.length : Nat) : Int))] [0] (.reg 1 [] [(5,bsC 20 (cInt .i64) ([(x1.getD ((x0.getD i1 default).toNat) default)] : List Int)),(6,ap1 21 (cInt .i64) 8 v1 (x1.getD ((x0.getD i1 default).toNat) default))] [1,4,5,9,10,11] [21] [] [pf (0 ≤ ((x0.getD i1 default) : Int) ∧ ((x0.getD i1 default) : Int) < ((x1.length : Nat) : Int))] [] [0,4,8] (r1 1 [1,4,5,9,10,11] [21] [pf (inR .i64 (((i1 : Nat) : Int) + 1))] [0] (.next 0 [(20005,some 21)] (D84b1 x0 x1 (i1 + 1) (v1 ++ [(x1.getD ((x0.getD i1 default).toNat) default)])))))) (r0 1 [4] [20005] (rt [(0,some 20005)] (C84 v1))))
def A84 (x0 : List Int) (x1 : List Int) : Ann:=.reg 2 [] [(1000,bsC 8 (cInt .i64) ([] : List Int))] [0,1,4,5] [8] [] [] [] [0] (r0 1 [1,4,5,9,10,11] [8] (lp (D84b1 x0 x1) [] [8] [(20005,some 8)] (D84b1 x0 x1 0 ([] : List Int)) (A84b1 x0 x1)))
theorem ok_spec_l6Compose (x0 : List Int) (x1 : List Int) (hl0 : x0.length ≤ 1000) (hl1 : x1.length ≤ 1000) (h : ∀ x ∈ x0, 0 ≤ x ∧ x < x1.length) : FnT Try.prog 84 [.ro false 1 x0.length (rowOf (cInt .i64) x0), .ro false 1 x1.length (rowOf (cInt .i64) x1)] (C84 (l6Compose x0 x1)) := by
  have aux : ∀ R, l6Compose x0 x1 = R → slim (C84 R) (A84 x0 x1) [] := by
    intro R hR
    refine rg ⟨trivial,trivial⟩ ?_
    refine rg trivial ?_
    revert hR;refine lN (fun i v=>(v : List Int).length ≤ i) (by trivial) rfl fun i1 v1 F1 hn1 hI1 hR hK1=>?_
    refine rg trivial ?_
    refine ⟨fun hc1=>?_,fun hc1=>?_⟩
    · have hii1 : i1 < x0.length:=by have:=of_decide_eq_true hc1;omega
      replace hR:=loopN_step hR hii1
      refine rg ⟨by (intros;omega),trivial⟩ ?_
      refine rg ⟨by (have h9:=h _ (getD_mem (d:=default) hii1);omega),trivial,by omega,trivial⟩ ?_
      refine rg ⟨by ( intros;simp only [inR];omega),trivial⟩ ?_
      exact hK1 (v1 ++ [(x1.getD ((x0.getD i1 default).toNat) default)]) hii1 (by ((try clear hR hK1);intros;(try simp only [decide_eq_true_eq,decide_eq_false_iff_not,Bool.or_eq_true,Bool.and_eq_true,or_f_iff,not_f_iff,not_t_iff,Bool.not_eq_true',inR] at *);(repeat' apply And.intro) <;> (simp_all [inR];done))) hR
    · obtain rfl : i1 = x0.length:=by have:=of_decide_eq_false hc1;omega
      replace hR:=loopN_end hR (Nat.lt_irrefl _)
      refine rg trivial ?_
      exact congrArg C84 hR
  exact Fn.go 24 Try.func84 (by kernel_rfl) (by kernel_rfl) (by simp [C84,Frs,FrsL,FrsB,rowOf,cInt,cBool,cStr,cSl,FrsL_app,cPerson,cUnion,cFamily,cClasses,cl01Cur,cStep,cKinType,cRule]) (A84 x0 x1) (by kernel_rfl) (aux _ rfl)
def k84 (x0 : List Int) (x1 : List Int) : Cl:=(hres (C84 (l6Compose x0 x1)),k3 (ok_spec_l6Compose x0 x1))
def C177 (R : (List Int)) : LV × List (Nat × BC):=(.own 0,[(0,.arr 1 R.length (rowOf (cInt .i64) R))])
def inverseP (x0 : List Int) : (List Int):=loopN (fun i1 (v1 : (List Int)) next=>next (v1.set ((x0.getD i1 default).toNat) ((i1 : Nat) : Int))) (fun (v1 : (List Int))=>v1) x0.length 0 (List.replicate x0.length (default : Int))
def D177b1 (x0 : List Int) (i1 : Nat) (v1 : (List Int)) : Dl:=⟨[(11,.int .i64 ((i1 : Nat) : Int)),(3,.own 20003)],[(20003,.arr 1 x0.length (rowOf (cInt .i64) v1))]⟩
def A177b1 (x0 : List Int) (i1 : Nat) (v1 : (List Int)) : Ann:=r0 1 [2,3,9,10,11,12] [20003] (cn (decide (((i1 : Nat) : Int) < ((x0.length : Nat) : Int))) (r1 1 [2,3,4,5,9,10,11] [20003] [pf (0 ≤ (((i1 : Nat) : Int) : Int) ∧ (((i1 : Nat) : Int) : Int) < ((x0.length : Nat) : Int))] [0] (.reg 1 [] [(4,stC 20003 (cInt .i64) x0.length v1 ((x0.getD i1 default).toNat) ((i1 : Nat) : Int))] [2,3,9,10,11] [20003] [] [pf (0 ≤ ((x0.getD i1 default) : Int) ∧ ((x0.getD i1 default) : Int) < ((x0.length : Nat) : Int))] [] [0,4] (r1 1 [2,3,9,10,11] [20003] [pf (inR .i64 (((i1 : Nat) : Int) + 1))] [0] (.next 0 [(20003,some 20003)] (D177b1 x0 (i1 + 1) (v1.set ((x0.getD i1 default).toNat) ((i1 : Nat) : Int))))))) (r0 1 [2] [20003] (.co false 20003 v1.length (rowOf (cInt .i64) v1) [lnP (rowOf (cInt .i64) v1) x0.length v1.length] [] 0 (rt [(0,some 20003)] (C177 v1)))))
def A177 (x0 : List Int) : Ann:=.reg 2 [] [(1002,msC 8 (cInt .i64) 8 ((x0.length : Nat) : Int) ((x0.length : Nat) : Int) x0.length (default : Int) (rfl))] [0,2,3] [8] [] [] [] [0] (r0 1 [2,3,9,10,11] [8] (lp (D177b1 x0) [] [8] [(20003,some 8)] (D177b1 x0 0 (List.replicate x0.length (default : Int))) (A177b1 x0)))
theorem ok_impl_inverse (x0 : List Int) (hl0 : x0.length ≤ 1000) (hp0 : ∀ x ∈ x0, 0 ≤ x ∧ x < x0.length) : FnT Try.prog 177 [.ro false 1 x0.length (rowOf (cInt .i64) x0)] (C177 (inverseP x0)) := by
  have aux : ∀ R, inverseP x0 = R → slim (C177 R) (A177 x0) [] := by
    intro R hR
    refine rg ⟨by (intros;omega),trivial⟩ ?_
    refine rg trivial ?_
    revert hR;refine lN (fun i v=>(v : List Int).length = x0.length) (by ((try clear hR);intros;(try simp only [decide_eq_true_eq,decide_eq_false_iff_not,Bool.or_eq_true,Bool.and_eq_true,or_f_iff,not_f_iff,not_t_iff,Bool.not_eq_true',inR] at *);(repeat' apply And.intro) <;> (simp_all [inR];done))) rfl fun i1 v1 F1 hn1 hI1 hR hK1=>?_
    refine rg trivial ?_
    refine ⟨fun hc1=>?_,fun hc1=>?_⟩
    · have hii1 : i1 < x0.length:=by have:=of_decide_eq_true hc1;omega
      replace hR:=loopN_step hR hii1
      refine rg ⟨by (intros;omega),trivial⟩ ?_
      refine rg ⟨by (have h9:=hp0 _ (getD_mem (d:=default) hii1);omega),by (have h9:=hp0 _ (getD_mem (d:=default) hii1);omega),trivial⟩ ?_
      refine rg ⟨by ( intros;simp only [inR];omega),trivial⟩ ?_
      exact hK1 (v1.set ((x0.getD i1 default).toNat) ((i1 : Nat) : Int)) hii1 (by (simp only [List.length_set];omega)) hR
    · obtain rfl : i1 = x0.length:=by have:=of_decide_eq_false hc1;omega
      replace hR:=loopN_end hR (Nat.lt_irrefl _)
      refine rg trivial ?_
      refine og (by (intros;omega)) ?_
      exact congrArg C177 hR
  exact Fn.go 22 Try.func177 (by kernel_rfl) (by kernel_rfl) (by simp [C177,Frs,FrsL,FrsB,rowOf,cInt,cBool,cStr,cSl,FrsL_app,cPerson,cUnion,cFamily,cClasses,cl01Cur,cStep,cKinType,cRule]) (A177 x0) (by kernel_rfl) (aux _ rfl)
def k177 (x0 : List Int) : Cl:=(hres (C177 (inverseP x0)),k2 (ok_impl_inverse x0))
def C93 (R : Bool) : LV × List (Nat × BC):=(.bool R,[])
def sameIntsP (x0 : List Int) (x1 : List Int) : Bool:=bif (!decide (((x0.length : Nat) : Int) = ((x1.length : Nat) : Int))) then false else (loopN (fun i1 (v1 : Unit) next=>bif (!decide ((x0.getD i1 default) = (x1.getD i1 default))) then false else (next ())) (fun (v1 : Unit)=>true) x0.length 0 ())
def D93b1 (x0 : List Int) (x1 : List Int) (i1 : Nat) (v1 : Unit) : Dl:=⟨[(13,.int .i64 ((i1 : Nat) : Int))],[]⟩
def A93b1 (x0 : List Int) (x1 : List Int) (i1 : Nat) (v1 : Unit) : Ann:=r0 1 [0,1,4,12,13,14] [] (cn (decide (((i1 : Nat) : Int) < ((x0.length : Nat) : Int))) (r1 2 [0,1,4,12,13,24] [] [pf (0 ≤ (((i1 : Nat) : Int) : Int) ∧ (((i1 : Nat) : Int) : Int) < ((x0.length : Nat) : Int)),pf (0 ≤ (((i1 : Nat) : Int) : Int) ∧ (((i1 : Nat) : Int) : Int) < ((x1.length : Nat) : Int))] [0,4] (cn (!decide ((x0.getD i1 default) = (x1.getD i1 default))) (r0 1 [0,1,4,12,13] [] (rt [] (C93 false))) (r1 1 [0,1,4,12,13] [] [pf (inR .i64 (((i1 : Nat) : Int) + 1))] [0] (.next 0 [] (D93b1 x0 x1 (i1 + 1) ()))))) (r0 1 [4] [] (rt [] (C93 true))))
def A93 (x0 : List Int) (x1 : List Int) : Ann:=r0 1 [0,1,4] [] (r0 1 [0,1,4,10] [] (cn (!decide (((x0.length : Nat) : Int) = ((x1.length : Nat) : Int))) (r0 1 [0,1,4] [] (rt [] (C93 false))) (r0 1 [0,1,4,12,13] [] (lp (D93b1 x0 x1) [] [] [] (D93b1 x0 x1 0 ()) (A93b1 x0 x1)))))
theorem ok_impl_sameInts (x0 : List Int) (x1 : List Int) (hl0 : x0.length ≤ 1000) (hl1 : x1.length ≤ 1000) : FnT Try.prog 93 [.ro false 1 x0.length (rowOf (cInt .i64) x0), .ro false 1 x1.length (rowOf (cInt .i64) x1)] (C93 (sameIntsP x0 x1)) := by
  have aux : ∀ R, sameIntsP x0 x1 = R → slim (C93 R) (A93 x0 x1) [] := by
    intro R hR
    refine rg trivial ?_
    refine rg trivial ?_
    revert hR;refine cd (fun hc1 hR=>?_) fun hc1 hR=>?_
    ·
      refine rg trivial ?_
      exact congrArg C93 hR
    ·
      refine rg trivial ?_
      revert hR;refine lN (fun i v=>True) (by trivial) rfl fun i1 v1 F1 hn1 hI1 hR hK1=>?_
      refine rg trivial ?_
      refine ⟨fun hc2=>?_,fun hc2=>?_⟩
      · have hii1 : i1 < x0.length:=by have:=of_decide_eq_true hc2;omega
        replace hR:=loopN_step hR hii1
        refine rg ⟨by (intros;omega),by ((try clear hR hK1);intros;(try simp only [decide_eq_true_eq,decide_eq_false_iff_not,Bool.or_eq_true,Bool.and_eq_true,or_f_iff,not_f_iff,not_t_iff,Bool.not_eq_true',inR] at *);(repeat' apply And.intro) <;> (intros;omega)),trivial⟩ ?_
        revert hR;refine cd (fun hc3 hR=>?_) fun hc3 hR=>?_
        ·
          refine rg trivial ?_
          exact congrArg C93 hR
        ·
          refine rg ⟨by ( intros;simp only [inR];omega),trivial⟩ ?_
          exact hK1 () hii1 (by trivial) hR
      · obtain rfl : i1 = x0.length:=by have:=of_decide_eq_false hc2;omega
        replace hR:=loopN_end hR (Nat.lt_irrefl _)
        refine rg trivial ?_
        exact congrArg C93 hR
  exact Fn.go 26 Try.func93 (by kernel_rfl) (by kernel_rfl) (by simp [C93,Frs,FrsL]) (A93 x0 x1) (by kernel_rfl) (aux _ rfl)
def k93 (x0 : List Int) (x1 : List Int) : Cl:=(hres (C93 (sameIntsP x0 x1)),k2 (ok_impl_sameInts x0 x1))
def C12 (R : Classes) : LV × List (Nat × BC):=(.agg [.own 0,.own 1],[(0,.arr 1 R.wife.length (rowOf (cInt .i64) R.wife)),(1,.arr 1 R.child.length (rowOf (cInt .i64) R.child))])
def sampCls (x0 : List UInt8) : Classes:=bif (x0 == [107,97,114,105,101,114,97]) then (Classes.mk [1,0,3,2] [3,2,1,0]) else (bif (x0 == [99,105,114,99,108,101]) then (Classes.mk [1,2,3,0] [0,1,2,3]) else (bif (x0 == [109,111,105,101,116,105,101,115]) then (Classes.mk [1,0] [0,1]) else (Classes.mk ([] : List Int) ([] : List Int))))
def A12 (x0 : List UInt8) : Ann:=r0 1 [0,2] [2] (r0 1 [2,3] [2] (r0 1 [2,3,4] [2] (cn (x0 == [107,97,114,105,101,114,97]) (.reg 1 [] [(0,bsC 6 (cInt .i64) ([1,0,3,2] : List Int)),(1,bsC 7 (cInt .i64) ([3,2,1,0] : List Int))] [2] [2,6,7] [] [] [] [0,4] (rt [(0,some 6),(1,some 7)] (C12 (Classes.mk [1,0,3,2] [3,2,1,0])))) (r0 1 [2,3,9] [2] (cn (x0 == [99,105,114,99,108,101]) (.reg 1 [] [(0,bsC 11 (cInt .i64) ([1,2,3,0] : List Int)),(1,bsC 12 (cInt .i64) ([0,1,2,3] : List Int))] [2] [2,11,12] [] [] [] [0,4] (rt [(0,some 11),(1,some 12)] (C12 (Classes.mk [1,2,3,0] [0,1,2,3])))) (r0 1 [2,14] [2] (cn (x0 == [109,111,105,101,116,105,101,115]) (.reg 1 [] [(0,bsC 16 (cInt .i64) ([1,0] : List Int)),(1,bsC 17 (cInt .i64) ([0,1] : List Int))] [2] [2,16,17] [] [] [] [0,4] (rt [(0,some 16),(1,some 17)] (C12 (Classes.mk [1,0] [0,1])))) (r0 1 [2] [2] (rt [(0,none),(1,none)] (C12 (Classes.mk ([] : List Int) ([] : List Int))))))))))))
theorem ok_spec_SampleClasses (x0 : List UInt8) : FnT Try.prog 12 [.str x0] (C12 (sampCls x0)) := by
  have aux : ∀ R, sampCls x0 = R → slim (C12 R) (A12 x0) [] := by
    intro R hR
    refine rg trivial ?_
    refine rg trivial ?_
    refine rg trivial ?_
    revert hR;refine cd (fun hc1 hR=>?_) fun hc1 hR=>?_
    ·
      refine rg ⟨trivial,trivial,trivial⟩ ?_
      exact congrArg C12 hR
    ·
      refine rg trivial ?_
      revert hR;refine cd (fun hc2 hR=>?_) fun hc2 hR=>?_
      ·
        refine rg ⟨trivial,trivial,trivial⟩ ?_
        exact congrArg C12 hR
      ·
        refine rg trivial ?_
        revert hR;refine cd (fun hc3 hR=>?_) fun hc3 hR=>?_
        ·
          refine rg ⟨trivial,trivial,trivial⟩ ?_
          exact congrArg C12 hR
        ·
          refine rg trivial ?_
          exact congrArg C12 hR
  exact Fn.go 20 Try.func12 (by kernel_rfl) (by kernel_rfl) (by simp [C12,Frs,FrsL,FrsB,rowOf,cInt,cBool,cStr,cSl,FrsL_app,cPerson,cUnion,cFamily,cClasses,cl01Cur,cStep,cKinType,cRule]) (A12 x0) (by kernel_rfl) (aux _ rfl)
def k12 (x0 : List UInt8) : Cl:=(hres (C12 (sampCls x0)),k0 (ok_spec_SampleClasses x0))
def C149 (R : Bool) : LV × List (Nat × BC):=(.bool R,[])
def areFull (x0 : Family) (x1 : Int) (x2 : Int) : Bool:=((((!decide (x1 = x2)) && (decide (0 ≤ ((x0.people.getD x1.toNat default).father)))) && (decide (0 ≤ ((x0.people.getD x1.toNat default).mother)))) && (decide (((x0.people.getD x1.toNat default).father) = ((x0.people.getD x2.toNat default).father)))) && (decide (((x0.people.getD x1.toNat default).mother) = ((x0.people.getD x2.toNat default).mother)))
def A149 (x0 : Family) (x1 : Int) (x2 : Int) : Ann:=.reg 3 [] [] [6] [] [!decide (x1 = x2),(!decide (x1 = x2)) && (decide (0 ≤ ((x0.people.getD x1.toNat default).father))),((!decide (x1 = x2)) && (decide (0 ≤ ((x0.people.getD x1.toNat default).father)))) && (decide (0 ≤ ((x0.people.getD x1.toNat default).mother))),(((!decide (x1 = x2)) && (decide (0 ≤ ((x0.people.getD x1.toNat default).father)))) && (decide (0 ≤ ((x0.people.getD x1.toNat default).mother)))) && (decide (((x0.people.getD x1.toNat default).father) = ((x0.people.getD x2.toNat default).father)))] [pf (0 ≤ (x1 : Int) ∧ (x1 : Int) < ((x0.people.length : Nat) : Int)),pf (0 ≤ (x2 : Int) ∧ (x2 : Int) < ((x0.people.length : Nat) : Int))] [] [0,4,1,1,1,5,5,5,9,9,9,9,9,13,13,13,13,13] (rt [] (C149 (((((!decide (x1 = x2)) && (decide (0 ≤ ((x0.people.getD x1.toNat default).father)))) && (decide (0 ≤ ((x0.people.getD x1.toNat default).mother)))) && (decide (((x0.people.getD x1.toNat default).father) = ((x0.people.getD x2.toNat default).father)))) && (decide (((x0.people.getD x1.toNat default).mother) = ((x0.people.getD x2.toNat default).mother))))))
theorem ok_impl_areFull (x0 : Family) (x1 : Int) (x2 : Int) (hx : x0.people.length ≤ 1048576) (ha : 0 ≤ x1 ∧ x1 < x0.people.length) (hb : 0 ≤ x2 ∧ x2 < x0.people.length) : FnT Try.prog 149 [.agg (cFamily false x0), .int .i64 x1, .int .i64 x2] (C149 (areFull x0 x1 x2)) := by
  have aux : ∀ R, areFull x0 x1 x2 = R → slim (C149 R) (A149 x0 x1 x2) [] := by
    intro R hR
    refine rg ⟨by trivial,by trivial,trivial⟩ ?_
    exact congrArg C149 hR
  exact Fn.go 46 Try.func149 (by kernel_rfl) (by kernel_rfl) (by simp [C149,Frs,FrsL]) (A149 x0 x1 x2) (by kernel_rfl) (aux _ rfl)
def k149 (x0 : Family) (x1 : Int) (x2 : Int) : Cl:=(hres (C149 (areFull x0 x1 x2)),k3 (ok_impl_areFull x0 x1 x2))
end Go.Proofs.Ytaageiiodlfeiaa
