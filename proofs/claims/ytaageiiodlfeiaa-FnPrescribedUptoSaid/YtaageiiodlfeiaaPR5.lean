import Derived.Test.YtaageiiodlfeiaaPR4
set_option maxHeartbeats 4000000
set_option linter.unusedSimpArgs false
set_option linter.unusedVariables false
namespace Go.Proofs.Ytaageiiodlfeiaa
open Go Go.Lite Go.Proofs
def C43 (R : (List KinType)) : LV × List (Nat × BC):=(.own 0,[(0,.arr 2 R.length (rowOf (cKinType true) R))])
def typesFrom (x0 : Int) (x1 : Int) : (List KinType):=bif ((((!decide (x0 = 1)) && (!decide (x0 = 2))) || (decide (x1 < 1))) || (decide (3 < x1))) then ([] : List KinType) else (loopN (fun i1 (v1 : (List KinType) × (List KinType)) nx1=>loopN (fun i2 (v2 : (List KinType)) nx2=>loopW (fun (v3 : (List KinType) × Int) next=>bif (decide (v3.2 ≤ 8)) then (bif (stepFits (Step.mk v3.2 0) (sexOf (v1.2.getD i2 default))) then (next ((v3.1 ++ [(KinType.mk ((copyType (v1.2.getD i2 default)).ego) (((copyType (v1.2.getD i2 default)).steps) ++ [(Step.mk v3.2 0)]))]),v3.2 + 1)) else (next (v3.1,v3.2 + 1))) else (nx2 v3.1)) (((9 : Int) - 1).toNat + 1) (v2,1)) (fun (v2 : (List KinType))=>nx1 ((v1.1 ++ v2),v2)) v1.2.length 0 ([] : List KinType)) (fun (v1 : (List KinType) × (List KinType))=>v1.1) x1.toNat 0 (([] : List KinType),[(KinType.mk x0 ([] : List Step))]))
def D43b1 (x0 : Int) (x1 : Int) (i1 : Nat) (v1 : (List KinType) × (List KinType)) : Dl:=⟨[(30,.int .i64 ((i1 : Nat) : Int)),(5,.own 20005),(6,.own 20006)],[(20005,.arr 2 v1.1.length (rowOf (cKinType true) v1.1)),(20006,.arr 2 v1.2.length (rowOf (cKinType true) v1.2))]⟩
def D43b2 (x0 : Int) (x1 : Int) (i1 : Nat) (v1 : (List KinType) × (List KinType)) (i2 : Nat) (v2 : (List KinType)) : Dl:=⟨[(34,.int .i64 ((i2 : Nat) : Int)),(7,.own 20007)],[(20007,.arr 2 v2.length (rowOf (cKinType true) v2))]⟩
def D43b3 (x0 : Int) (x1 : Int) (i1 : Nat) (v1 : (List KinType) × (List KinType)) (i2 : Nat) (v2 : (List KinType)) (v3 : (List KinType) × Int) : Dl:=⟨[(7,.own 30007),(10,.int .i64 v3.2)],[(30007,.arr 2 v3.1.length (rowOf (cKinType true) v3.1))]⟩
def A43b3 (x0 : Int) (x1 : Int) (i1 : Nat) (v1 : (List KinType) × (List KinType)) (i2 : Nat) (v2 : (List KinType)) (v3 : (List KinType) × Int) : Ann:=r0 1 [4,5,6,7,9,10,29,30,32,33,34,39] [9,20005,20006,30007] (cn (decide (v3.2 ≤ 8)) (.reg 1 [] [(3,k90 (v1.2.getD i2 default)),(4,k89 (Step.mk v3.2 0) (sexOf (v1.2.getD i2 default)))] [4,5,6,7,9,10,29,30,32,33,34,46] [9,20005,20006,30007] [] [] [] [0,4] (cn (stepFits (Step.mk v3.2 0) (sexOf (v1.2.getD i2 default))) (.reg 2 [] [(1,k91 (v1.2.getD i2 default)),(1004,bsC 53 (cStep true) ([(Step.mk v3.2 0)] : List Step)),(1005,ap1 54 (cStep true) 16 ((copyType (v1.2.getD i2 default)).steps) (Step.mk v3.2 0))] [4,5,6,7,9,10,11,29,30,32,33,34] [9,11,54,20005,20006,30007] [] [] [] [0,4,8] (.reg 1 [] [(2,bsC 58 (cKinType true) ([(KinType.mk ((copyType (v1.2.getD i2 default)).ego) (((copyType (v1.2.getD i2 default)).steps) ++ [(Step.mk v3.2 0)]))] : List KinType)),(3,ap1 59 (cKinType true) 32 v3.1 (KinType.mk ((copyType (v1.2.getD i2 default)).ego) (((copyType (v1.2.getD i2 default)).steps) ++ [(Step.mk v3.2 0)])))] [4,5,6,7,9,10,29,30,32,33,34] [9,59,20005,20006] [] [] [] [0,4] (r1 1 [4,5,6,7,9,10,29,30,32,33,34] [9,59,20005,20006] [pf (inR .i64 (v3.2 + 1))] [0] (.next 0 [(30007,some 59)] (D43b3 x0 x1 i1 v1 i2 v2 ((v3.1 ++ [(KinType.mk ((copyType (v1.2.getD i2 default)).ego) (((copyType (v1.2.getD i2 default)).steps) ++ [(Step.mk v3.2 0)]))]),v3.2 + 1)))))) (r1 1 [4,5,6,7,9,10,29,30,32,33,34] [9,20005,20006,30007] [pf (inR .i64 (v3.2 + 1))] [0] (.next 0 [(30007,some 30007)] (D43b3 x0 x1 i1 v1 i2 v2 (v3.1,v3.2 + 1)))))) (r1 1 [4,5,6,7,29,30,32,33,34] [20005,20006,30007] [pf (inR .i64 (((i2 : Nat) : Int) + 1))] [0] (.next 1 [(20007,some 30007)] (D43b2 x0 x1 i1 v1 (i2 + 1) v3.1))))
def A43b2 (x0 : Int) (x1 : Int) (i1 : Nat) (v1 : (List KinType) × (List KinType)) (i2 : Nat) (v2 : (List KinType)) : Ann:=r0 1 [4,5,6,7,29,30,32,33,34,35] [20005,20006,20007] (cn (decide (((i2 : Nat) : Int) < ((v1.2.length : Nat) : Int))) (r1 2 [4,5,6,7,9,10,29,30,32,33,34] [9,20005,20006,20007] [pf (0 ≤ (((i2 : Nat) : Int) : Int) ∧ (((i2 : Nat) : Int) : Int) < ((v1.2.length : Nat) : Int))] [0] (.loop ((List KinType) × Int) (D43b3 x0 x1 i1 v1 i2 v2) [] [20007] [(30007,some 20007)] (D43b3 x0 x1 i1 v1 i2 v2 (v2,1)) (A43b3 x0 x1 i1 v1 i2 v2))) (.reg 1 [] [(2,apC 63 (cKinType true) 32 v1.1 v2)] [4,5,6,7,29,30] [63,20006,20007] [] [] [] [0] (r0 1 [4,5,6,29,30] [63,20007] (r1 1 [4,5,6,29,30] [63,20007] [pf (inR .i64 (((i1 : Nat) : Int) + 1))] [0] (.next 1 [(20005,some 63),(20006,some 20007)] (D43b1 x0 x1 (i1 + 1) ((v1.1 ++ v2),v2)))))))
def A43b1 (x0 : Int) (x1 : Int) (i1 : Nat) (v1 : (List KinType) × (List KinType)) : Ann:=r0 1 [4,5,6,29,30,31] [20005,20006] (cn (decide (((i1 : Nat) : Int) < x1)) (r0 1 [4,5,6,7,29,30] [20005,20006] (r0 1 [4,5,6,7,29,30,32,33,34] [20005,20006] (lp (D43b2 x0 x1 i1 v1) [] [] [(20007,none)] (D43b2 x0 x1 i1 v1 0 ([] : List KinType)) (A43b2 x0 x1 i1 v1)))) (r0 1 [4] [20005] (rt [(0,some 20005)] (C43 v1.1))))
def A43 (x0 : Int) (x1 : Int) : Ann:=r0 1 [0,1,4] [] (.reg 1 [] [] [0,1,4,25] [] [!decide (x0 = 1),!((!decide (x0 = 1)) && (!decide (x0 = 2))),(!decide (x0 = 1)) && (!decide (x0 = 2)),!(((!decide (x0 = 1)) && (!decide (x0 = 2))) || (decide (x1 < 1))),((!decide (x0 = 1)) && (!decide (x0 = 2))) || (decide (x1 < 1))] [] [] [1,1,5,10,13,18] (cn ((((!decide (x0 = 1)) && (!decide (x0 = 2))) || (decide (x1 < 1))) || (decide (3 < x1))) (r0 1 [0,1,4] [] (rt [(0,none)] (C43 ([] : List KinType)))) (.reg 2 [] [(1002,bsW 28 (cKinType true) ((KinType.mk x0 ([] : List Step)) : KinType) [.int .i64 x0,.nilS] (cellsLe_e (cellsLe_n cellsLe_nil)))] [1,4,5,6] [28] [] [] [] [0] (r0 1 [4,5,6,29,30] [28] (lp (D43b1 x0 x1) [] [28] [(20005,none),(20006,some 28)] (D43b1 x0 x1 0 (([] : List KinType),[(KinType.mk x0 ([] : List Step))])) (A43b1 x0 x1))))))
theorem ok_impl_TypesFrom (x0 : Int) (x1 : Int) : FnT Try.prog 43 [.int .i64 x0, .int .i64 x1] (C43 (typesFrom x0 x1)) := by
  have aux : ∀ R, typesFrom x0 x1 = R → slim (C43 R) (A43 x0 x1) [] := by
    intro R hR
    refine rg trivial ?_
    refine rg trivial ?_
    revert hR;refine cd (fun hc1 hR=>?_) fun hc1 hR=>?_
    ·
      refine rg trivial ?_
      exact congrArg C43 hR
    ·
      refine rg ⟨trivial,trivial⟩ ?_
      refine rg trivial ?_
      revert hR;refine lN (fun i v=>(v.1 : List KinType).length ≤ 1000 * i ∧ (v.2 : List KinType).length ≤ 8 ^ i ∧ ∀ t ∈ (v.2 : List KinType),t.steps.length ≤ i) (by ((dsimp only;exact ⟨Nat.zero_le _,Nat.le_refl _,fun t h9=>by rw [List.mem_singleton] at h9;rw [h9];exact Nat.le_refl _⟩))) rfl fun i1 v1 F1 hn1 hI1 hR hK1=>?_
      refine rg trivial ?_
      refine ⟨fun hc2=>?_,fun hc2=>?_⟩
      · have hii1 : i1 < x1.toNat:=by have:=of_decide_eq_true hc2;omega
        replace hR:=loopN_step hR hii1
        refine rg trivial ?_
        refine rg trivial ?_
        revert hR;refine lN (fun i v=>(v : List KinType).length ≤ 8 * i ∧ ∀ t ∈ (v : List KinType),t.steps.length ≤ i1 + 1) (by ((exact ⟨Nat.zero_le _,fun t h9=>absurd h9 List.not_mem_nil⟩))) rfl fun i2 v2 F2 hn2 hI2 hR hK2=>?_
        refine rg trivial ?_
        refine ⟨fun hc3=>?_,fun hc3=>?_⟩
        · have hii2 : i2 < v1.2.length:=by have:=of_decide_eq_true hc3;omega
          replace hR:=loopN_step hR hii2
          refine rg ⟨by (intros;omega),trivial⟩ ?_
          revert hR;refine lW (fun v=>(1 ≤ v.2 ∧ v.2 ≤ 9) ∧ ((v.1 : List KinType).length : Int) ≤ 8 * i2 + (v.2 - 1) ∧ ∀ t ∈ (v.1 : List KinType),t.steps.length ≤ i1 + 1) (fun v=>((9 : Int) - v.2).toNat) (by ((have h4:=hI2.1;dsimp only;exact ⟨⟨by omega,by omega⟩,by omega,hI2.2⟩))) (Nat.lt_succ_self _) rfl fun m3 v3 F3 hI3 hM3 hR hK3=>?_
          refine rg trivial ?_
          revert hR;refine cd (fun hc4 hR=>?_) fun hc4 hR=>?_
          ·
            refine rg ⟨by (simp only [or_f_iff,decide_eq_false_iff_not] at hc1;have h9:=pw8 (i:=i1) (by omega);(try have h6:=hI1.1);(try have h5:=hI1.2.1);(try have h4:=hI2.1);(try have h3:=hI3.1);(try have h2:=hI3.2.1);(try have h7:=of_decide_eq_true (by assumption : decide (v3.2 ≤ 8) = true));(try have h8:=hI1.2.2 _ (getD_mem (d:=default) hii2));(try simp only [inR]);(try dsimp only);omega),trivial,trivial⟩ ?_
            revert hR;refine cd (fun hc5 hR=>?_) fun hc5 hR=>?_
            ·
              refine rg ⟨by (simp only [or_f_iff,decide_eq_false_iff_not] at hc1;have h9:=pw8 (i:=i1) (by omega);(try have h6:=hI1.1);(try have h5:=hI1.2.1);(try have h4:=hI2.1);(try have h3:=hI3.1);(try have h2:=hI3.2.1);(try have h7:=of_decide_eq_true (by assumption : decide (v3.2 ≤ 8) = true));(try have h8:=hI1.2.2 _ (getD_mem (d:=default) hii2));(try simp only [inR]);(try dsimp only);omega),trivial,by (simp only [or_f_iff,decide_eq_false_iff_not] at hc1;have h9:=pw8 (i:=i1) (by omega);(try have h6:=hI1.1);(try have h5:=hI1.2.1);(try have h4:=hI2.1);(try have h3:=hI3.1);(try have h2:=hI3.2.1);(try have h7:=of_decide_eq_true (by assumption : decide (v3.2 ≤ 8) = true));(try have h8:=hI1.2.2 _ (getD_mem (d:=default) hii2));simp only [copyType];omega),trivial⟩ ?_
              refine rg ⟨trivial,by (simp only [or_f_iff,decide_eq_false_iff_not] at hc1;have h9:=pw8 (i:=i1) (by omega);(try have h6:=hI1.1);(try have h5:=hI1.2.1);(try have h4:=hI2.1);(try have h3:=hI3.1);(try have h2:=hI3.2.1);(try simp only [inR]);omega),trivial⟩ ?_
              refine rg ⟨by (simp only [or_f_iff,decide_eq_false_iff_not] at hc1;have h9:=pw8 (i:=i1) (by omega);(try have h6:=hI1.1);(try have h5:=hI1.2.1);(try have h4:=hI2.1);(try have h3:=hI3.1);(try have h2:=hI3.2.1);(try simp only [inR]);omega),trivial⟩ ?_
              exact hK3 ((v3.1 ++ [(KinType.mk ((copyType (v1.2.getD i2 default)).ego) (((copyType (v1.2.getD i2 default)).steps) ++ [(Step.mk v3.2 0)]))]),v3.2 + 1) (by (simp only [or_f_iff,decide_eq_false_iff_not] at hc1;have h9:=pw8 (i:=i1) (by omega);(try have h6:=hI1.1);(try have h5:=hI1.2.1);(try have h4:=hI2.1);(try have h3:=hI3.1);(try have h2:=hI3.2.1);(try have h7:=of_decide_eq_true (by assumption : decide (v3.2 ≤ 8) = true));(try have h8:=hI1.2.2 _ (getD_mem (d:=default) hii2));exact ⟨⟨by dsimp only;omega,by dsimp only;omega⟩,by simp only [List.length_append,List.length_cons,List.length_nil];omega,steps_snoc hI3.2.2 (by simp only [copyType,List.length_append,List.length_cons,List.length_nil];omega)⟩)) (by (simp only [or_f_iff,decide_eq_false_iff_not] at hc1;have h9:=pw8 (i:=i1) (by omega);(try have h6:=hI1.1);(try have h5:=hI1.2.1);(try have h4:=hI2.1);(try have h3:=hI3.1);(try have h2:=hI3.2.1);(try have h7:=of_decide_eq_true (by assumption : decide (v3.2 ≤ 8) = true));(try have h8:=hI1.2.2 _ (getD_mem (d:=default) hii2));(try simp only [inR]);(try dsimp only);omega)) hR
            ·
              refine rg ⟨by (simp only [or_f_iff,decide_eq_false_iff_not] at hc1;have h9:=pw8 (i:=i1) (by omega);(try have h6:=hI1.1);(try have h5:=hI1.2.1);(try have h4:=hI2.1);(try have h3:=hI3.1);(try have h2:=hI3.2.1);(try simp only [inR]);omega),trivial⟩ ?_
              exact hK3 (v3.1,v3.2 + 1) (by (simp only [or_f_iff,decide_eq_false_iff_not] at hc1;have h9:=pw8 (i:=i1) (by omega);(try have h6:=hI1.1);(try have h5:=hI1.2.1);(try have h4:=hI2.1);(try have h3:=hI3.1);(try have h2:=hI3.2.1);(try have h7:=of_decide_eq_true (by assumption : decide (v3.2 ≤ 8) = true));(try have h8:=hI1.2.2 _ (getD_mem (d:=default) hii2));exact ⟨⟨by dsimp only;omega,by dsimp only;omega⟩,by dsimp only;omega,hI3.2.2⟩)) (by (simp only [or_f_iff,decide_eq_false_iff_not] at hc1;have h9:=pw8 (i:=i1) (by omega);(try have h6:=hI1.1);(try have h5:=hI1.2.1);(try have h4:=hI2.1);(try have h3:=hI3.1);(try have h2:=hI3.2.1);(try have h7:=of_decide_eq_true (by assumption : decide (v3.2 ≤ 8) = true));(try have h8:=hI1.2.2 _ (getD_mem (d:=default) hii2));(try simp only [inR]);(try dsimp only);omega)) hR
          ·
            refine rg ⟨by (simp only [or_f_iff,decide_eq_false_iff_not] at hc1;have h9:=pw8 (i:=i1) (by omega);(try have h6:=hI1.1);(try have h5:=hI1.2.1);(try have h4:=hI2.1);(try have h3:=hI3.1);(try have h2:=hI3.2.1);(try simp only [inR]);omega),trivial⟩ ?_
            exact hK2 v3.1 hii2 (by (simp only [or_f_iff,decide_eq_false_iff_not] at hc1;have h9:=pw8 (i:=i1) (by omega);(try have h6:=hI1.1);(try have h5:=hI1.2.1);(try have h4:=hI2.1);(try have h3:=hI3.1);(try have h2:=hI3.2.1);(try have h7:=of_decide_eq_true (by assumption : decide (v3.2 ≤ 8) = true));(try have h8:=hI1.2.2 _ (getD_mem (d:=default) hii2));exact ⟨by omega,hI3.2.2⟩)) hR
        · obtain rfl : i2 = v1.2.length:=by have:=of_decide_eq_false hc3;omega
          replace hR:=loopN_end hR (Nat.lt_irrefl _)
          refine rg ⟨by (simp only [or_f_iff,decide_eq_false_iff_not] at hc1;have h9:=pw8 (i:=i1) (by omega);(try have h6:=hI1.1);(try have h5:=hI1.2.1);(try have h4:=hI2.1);(try have h3:=hI3.1);(try have h2:=hI3.2.1);(try simp only [inR]);omega),trivial⟩ ?_
          refine rg trivial ?_
          refine rg ⟨by (simp only [or_f_iff,decide_eq_false_iff_not] at hc1;have h9:=pw8 (i:=i1) (by omega);(try have h6:=hI1.1);(try have h5:=hI1.2.1);(try have h4:=hI2.1);(try have h3:=hI3.1);(try have h2:=hI3.2.1);(try simp only [inR]);omega),trivial⟩ ?_
          exact hK1 ((v1.1 ++ v2),v2) hii1 (by (simp only [or_f_iff,decide_eq_false_iff_not] at hc1;have h9:=pw8 (i:=i1) (by omega);(try have h6:=hI1.1);(try have h5:=hI1.2.1);(try have h4:=hI2.1);(try have h3:=hI3.1);(try have h2:=hI3.2.1);dsimp only;exact ⟨by simp only [List.length_append];omega,by rw [Nat.pow_succ];omega,hI2.2⟩)) hR
      · obtain rfl : i1 = x1.toNat:=by have:=of_decide_eq_false hc2;omega
        replace hR:=loopN_end hR (Nat.lt_irrefl _)
        refine rg trivial ?_
        exact congrArg C43 hR
  exact Fn.go 67 Try.func43 (by kernel_rfl) (by kernel_rfl) (by simp [C43,Frs,FrsL,FrsB,rowOf,cInt,cBool,cStr,cSl,FrsL_app,cPerson,cUnion,cFamily,cClasses,cl01Cur,cStep,cKinType,cRule]) (A43 x0 x1) (by kernel_rfl) (aux _ rfl)
def k43 (x0 : Int) (x1 : Int) : Cl:=(hres (C43 (typesFrom x0 x1)),k0 (ok_impl_TypesFrom x0 x1))
end Go.Proofs.Ytaageiiodlfeiaa
