import Derived.Test.YtepefimocflfkaaM184
set_option maxHeartbeats 4000000
set_option linter.unusedSimpArgs false
set_option linter.unusedVariables false
namespace Go.Proofs.Ytepefimocflfkaa
open Go Go.Lite Go.Proofs
def C90 (R:Family×Bool):LV×List (Nat×BC):=(.tup [.agg [.own 0,.own 1],.bool R.2],[(0,.arr 6 R.1.people.length (rowOf (cPerson true) R.1.people)),(1,.arr 4 R.1.unions.length (rowOf (cUnion true) R.1.unions))])
def specPermute (x0:Family) (x1:List Int):Family×Bool:=bif ((!((l1Inverse x1 ((x0.people.length:Nat):Int)).2))||(!(specIsFamily x0))) then ((Family.mk ([]:List Person) ([]:List Union)),false) else (loopN (fun i1 (v1:(List Person)) next=>jn (fun K1=>bif (decide (0≤((x0.people.getD ((x1.getD i1 default).toNat) default).father))) then (K1 (((l1Inverse x1 ((x0.people.length:Nat):Int)).1).getD (((x0.people.getD ((x1.getD i1 default).toNat) default).father).toNat) default)) else (K1 ((x0.people.getD ((x1.getD i1 default).toNat) default).father))) (fun (j1:Int)=>bif (decide (0≤((x0.people.getD ((x1.getD i1 default).toNat) default).mother))) then (next (v1++[(Person.mk ((x0.people.getD ((x1.getD i1 default).toNat) default).name) ((x0.people.getD ((x1.getD i1 default).toNat) default).sex) j1 (((l1Inverse x1 ((x0.people.length:Nat):Int)).1).getD (((x0.people.getD ((x1.getD i1 default).toNat) default).mother).toNat) default) ((x0.people.getD ((x1.getD i1 default).toNat) default).born) ((x0.people.getD ((x1.getD i1 default).toNat) default).died))])) else (next (v1++[(Person.mk ((x0.people.getD ((x1.getD i1 default).toNat) default).name) ((x0.people.getD ((x1.getD i1 default).toNat) default).sex) j1 ((x0.people.getD ((x1.getD i1 default).toNat) default).mother) ((x0.people.getD ((x1.getD i1 default).toNat) default).born) ((x0.people.getD ((x1.getD i1 default).toNat) default).died))])))) (fun (v1:(List Person))=>loopN (fun i2 (v2:(List Union)) next=>next (v2++[(Union.mk (((l1Inverse x1 ((x0.people.length:Nat):Int)).1).getD (((x0.unions.getD i2 default).man).toNat) default) (((l1Inverse x1 ((x0.people.length:Nat):Int)).1).getD (((x0.unions.getD i2 default).woman).toNat) default) ((x0.unions.getD i2 default).from0) ((x0.unions.getD i2 default).to))])) (fun (v2:(List Union))=>bif (!(specIsFamily (Family.mk v1 v2))) then ((Family.mk ([]:List Person) ([]:List Union)),false) else ((Family.mk v1 v2),true)) x0.unions.length 0 ([]:List Union)) x1.length 0 ([]:List Person))
def D90b1 (x0:Family) (x1:List Int) (i1:Nat) (v1:(List Person)):Dl:=⟨[(33,.int .i64 ((i1:Nat):Int))],[(30800,.arr 6 v1.length (rowOf (cPerson true) v1)),(8,.var [.own 30800,.nilS])]⟩
def D90j1 (x0:Family) (x1:List Int) (i1:Nat) (v1:(List Person)) (j1:Int):Dl:=⟨[],[(11,.var [.str ((x0.people.getD ((x1.getD i1 default).toNat) default).name),.int .i64 ((x0.people.getD ((x1.getD i1 default).toNat) default).sex),.int .i64 j1,.int .i64 ((x0.people.getD ((x1.getD i1 default).toNat) default).mother),.int .i64 ((x0.people.getD ((x1.getD i1 default).toNat) default).born),.int .i64 ((x0.people.getD ((x1.getD i1 default).toNat) default).died)])]⟩
def A90j1 (x0:Family) (x1:List Int) (i1:Nat) (v1:(List Person)) (j1:Int):Ann:=r0 1 [2,4,5,6,8,11,31,32,33,53] [2,4,8,11,1019,30800] (cn (decide (0≤((x0.people.getD ((x1.getD i1 default).toNat) default).mother))) (r1 1 [2,4,5,6,8,11,31,32,33] [2,4,8,11,1019,30800] [pf (0≤((x0.people.getD ((x1.getD i1 default).toNat) default).mother:Int)∧((x0.people.getD ((x1.getD i1 default).toNat) default).mother:Int)<((((l1Inverse x1 ((x0.people.length:Nat):Int)).1).length:Nat):Int))] [0] (.reg 1 [] [(3,bsC 63 (cPerson true) ([(Person.mk ((x0.people.getD ((x1.getD i1 default).toNat) default).name) ((x0.people.getD ((x1.getD i1 default).toNat) default).sex) j1 (((l1Inverse x1 ((x0.people.length:Nat):Int)).1).getD (((x0.people.getD ((x1.getD i1 default).toNat) default).mother).toNat) default) ((x0.people.getD ((x1.getD i1 default).toNat) default).born) ((x0.people.getD ((x1.getD i1 default).toNat) default).died))]:List Person)),(4,ap1 64 (cPerson true) 56 v1 (Person.mk ((x0.people.getD ((x1.getD i1 default).toNat) default).name) ((x0.people.getD ((x1.getD i1 default).toNat) default).sex) j1 (((l1Inverse x1 ((x0.people.length:Nat):Int)).1).getD (((x0.people.getD ((x1.getD i1 default).toNat) default).mother).toNat) default) ((x0.people.getD ((x1.getD i1 default).toNat) default).born) ((x0.people.getD ((x1.getD i1 default).toNat) default).died)))] [2,4,5,6,8,31,32,33] [2,4,8,64,1019] [] [] [] [0,4] (r1 1 [2,4,5,6,8,31,32,33] [2,4,8,64,1019] [pf (inR .i64 (((i1:Nat):Int)+1))] [0] (.next 0 [(30800,some 64)] (D90b1 x0 x1 (i1+1) (v1++[(Person.mk ((x0.people.getD ((x1.getD i1 default).toNat) default).name) ((x0.people.getD ((x1.getD i1 default).toNat) default).sex) j1 (((l1Inverse x1 ((x0.people.length:Nat):Int)).1).getD (((x0.people.getD ((x1.getD i1 default).toNat) default).mother).toNat) default) ((x0.people.getD ((x1.getD i1 default).toNat) default).born) ((x0.people.getD ((x1.getD i1 default).toNat) default).died))])))))) (.reg 1 [] [(3,bsC 63 (cPerson true) ([(Person.mk ((x0.people.getD ((x1.getD i1 default).toNat) default).name) ((x0.people.getD ((x1.getD i1 default).toNat) default).sex) j1 ((x0.people.getD ((x1.getD i1 default).toNat) default).mother) ((x0.people.getD ((x1.getD i1 default).toNat) default).born) ((x0.people.getD ((x1.getD i1 default).toNat) default).died))]:List Person)),(4,ap1 64 (cPerson true) 56 v1 (Person.mk ((x0.people.getD ((x1.getD i1 default).toNat) default).name) ((x0.people.getD ((x1.getD i1 default).toNat) default).sex) j1 ((x0.people.getD ((x1.getD i1 default).toNat) default).mother) ((x0.people.getD ((x1.getD i1 default).toNat) default).born) ((x0.people.getD ((x1.getD i1 default).toNat) default).died)))] [2,4,5,6,8,31,32,33] [2,4,8,64,1019] [] [] [] [0,4] (r1 1 [2,4,5,6,8,31,32,33] [2,4,8,64,1019] [pf (inR .i64 (((i1:Nat):Int)+1))] [0] (.next 0 [(30800,some 64)] (D90b1 x0 x1 (i1+1) (v1++[(Person.mk ((x0.people.getD ((x1.getD i1 default).toNat) default).name) ((x0.people.getD ((x1.getD i1 default).toNat) default).sex) j1 ((x0.people.getD ((x1.getD i1 default).toNat) default).mother) ((x0.people.getD ((x1.getD i1 default).toNat) default).born) ((x0.people.getD ((x1.getD i1 default).toNat) default).died))]))))))
def D90b2 (x0:Family) (x1:List Int) (i1:Nat) (v1:(List Person)) (i2:Nat) (v2:(List Union)):Dl:=⟨[(70,.int .i64 ((i2:Nat):Int))],[(30801,.arr 4 v2.length (rowOf (cUnion true) v2)),(8,.var [.own 30800,.own 30801])]⟩
def A90b2 (x0:Family) (x1:List Int) (i1:Nat) (v1:(List Person)) (i2:Nat) (v2:(List Union)):Ann:=r0 1 [4,5,6,8,68,69,70,71] [4,8,1019,30800,30801] (cn (decide (((i2:Nat):Int)<((x0.unions.length:Nat):Int))) (r1 1 [4,5,6,8,13,68,69,70] [4,8,13,1019,30800,30801] [pf (0≤(((i2:Nat):Int):Int)∧(((i2:Nat):Int):Int)<((x0.unions.length:Nat):Int))] [0] (.reg 1 [] [(17,bsC 91 (cUnion true) ([(Union.mk (((l1Inverse x1 ((x0.people.length:Nat):Int)).1).getD (((x0.unions.getD i2 default).man).toNat) default) (((l1Inverse x1 ((x0.people.length:Nat):Int)).1).getD (((x0.unions.getD i2 default).woman).toNat) default) ((x0.unions.getD i2 default).from0) ((x0.unions.getD i2 default).to))]:List Union)),(18,ap1 92 (cUnion true) 32 v2 (Union.mk (((l1Inverse x1 ((x0.people.length:Nat):Int)).1).getD (((x0.unions.getD i2 default).man).toNat) default) (((l1Inverse x1 ((x0.people.length:Nat):Int)).1).getD (((x0.unions.getD i2 default).woman).toNat) default) ((x0.unions.getD i2 default).from0) ((x0.unions.getD i2 default).to)))] [4,5,6,8,68,69,70] [4,8,92,1019,30800] [] [pf (0≤((x0.unions.getD i2 default).man:Int)∧((x0.unions.getD i2 default).man:Int)<((((l1Inverse x1 ((x0.people.length:Nat):Int)).1).length:Nat):Int)),pf (0≤((x0.unions.getD i2 default).woman:Int)∧((x0.unions.getD i2 default).woman:Int)<((((l1Inverse x1 ((x0.people.length:Nat):Int)).1).length:Nat):Int))] [] [0,4,8,12] (r1 1 [4,5,6,8,68,69,70] [4,8,92,1019,30800] [pf (inR .i64 (((i2:Nat):Int)+1))] [0] (.next 0 [(30801,some 92)] (D90b2 x0 x1 i1 v1 (i2+1) (v2++[(Union.mk (((l1Inverse x1 ((x0.people.length:Nat):Int)).1).getD (((x0.unions.getD i2 default).man).toNat) default) (((l1Inverse x1 ((x0.people.length:Nat):Int)).1).getD (((x0.unions.getD i2 default).woman).toNat) default) ((x0.unions.getD i2 default).from0) ((x0.unions.getD i2 default).to))])))))) (.reg 1 [] [(1,k15 (Family.mk v1 v2))] [4,5,8,97] [4,8,30800,30801] [] [] [] [0] (cn (!(specIsFamily (Family.mk v1 v2))) (r0 1 [4,5,8] [4,8,30800,30801] (rt [(0,none),(1,none)] (C90 ((Family.mk ([]:List Person) ([]:List Union)),false)))) (r0 1 [4,5] [4,30800,30801] (rt [(0,some 30800),(1,some 30801)] (C90 ((Family.mk v1 v2),true)))))))
def A90b1 (x0:Family) (x1:List Int) (i1:Nat) (v1:(List Person)):Ann:=r0 1 [2,4,5,6,8,31,32,33,34] [2,4,8,1019,30800] (cn (decide (((i1:Nat):Int)<((x1.length:Nat):Int))) (r1 2 [2,4,5,6,8,11,31,32,33] [2,4,8,11,1019,30800] [pf (0≤(((i1:Nat):Int):Int)∧(((i1:Nat):Int):Int)<((x1.length:Nat):Int)),pf (0≤((x1.getD i1 default):Int)∧((x1.getD i1 default):Int)<((x0.people.length:Nat):Int))] [0,4] (.join 0 Int (D90j1 x0 x1 i1 v1) [2,4,5,6,8,11,31,32,33] [2,4,1019,8,30800,11] (r0 1 [2,4,5,6,8,11,31,32,33,44] [2,4,8,11,1019,30800] (cn (decide (0≤((x0.people.getD ((x1.getD i1 default).toNat) default).father))) (r1 1 [2,4,5,6,8,11,31,32,33] [2,4,8,11,1019,30800] [pf (0≤((x0.people.getD ((x1.getD i1 default).toNat) default).father:Int)∧((x0.people.getD ((x1.getD i1 default).toNat) default).father:Int)<((((l1Inverse x1 ((x0.people.length:Nat):Int)).1).length:Nat):Int))] [0] (.next 0 [] (D90j1 x0 x1 i1 v1 (((l1Inverse x1 ((x0.people.length:Nat):Int)).1).getD (((x0.people.getD ((x1.getD i1 default).toNat) default).father).toNat) default)))) (.next 0 [] (D90j1 x0 x1 i1 v1 ((x0.people.getD ((x1.getD i1 default).toNat) default).father))))) (A90j1 x0 x1 i1 v1))) (r0 1 [4,5,6,8,68,69,70] [4,8,1019,30800] (lp (D90b2 x0 x1 i1 v1) [] [] [(30801,none)] (D90b2 x0 x1 i1 v1 0 ([]:List Union)) (A90b2 x0 x1 i1 v1))))
def A90 (x0:Family) (x1:List Int):Ann:=.reg 2 [] [(1004,k141 x1 ((x0.people.length:Nat):Int))] [1,2,4,5,6,7] [2,4,1019] [] [] [] [0] (.reg 1 [] [(4,cg (!(!((l1Inverse x1 ((x0.people.length:Nat):Int)).2))) (k15 x0))] [1,2,4,5,6,28] [2,4,1019] [!(!((l1Inverse x1 ((x0.people.length:Nat):Int)).2)),!((l1Inverse x1 ((x0.people.length:Nat):Int)).2)] [] [] [1,0,1,6] (cn ((!((l1Inverse x1 ((x0.people.length:Nat):Int)).2))||(!(specIsFamily x0))) (r0 1 [1,2,4,5,6] [2,4,1019] (rt [(0,none),(1,none)] (C90 ((Family.mk ([]:List Person) ([]:List Union)),false)))) (r0 1 [1,2,4,5,6,8] [2,4,8,1019] (r0 1 [2,4,5,6,8,31,32,33] [2,4,8,1019] (lp (D90b1 x0 x1) [] [] [(30800,none)] (D90b1 x0 x1 0 ([]:List Person)) (A90b1 x0 x1))))))
theorem ok_spec_PermutePeople (x0:Family) (x1:List Int) (hx:x0.people.length≤1048576) (hu:x0.unions.length≤1048576) (hn:∀ p∈x0.people,p.name.length≤1048576) (ho:x1.length≤1000):FnT Try.prog 90 [.agg (cFamily false x0),.ro false 1 x1.length (rowOf (cInt .i64) x1)] (C90 (specPermute x0 x1)):=by
 have aux:∀ R,specPermute x0 x1=R→slim (C90 R) (A90 x0 x1) []:=by
  intro R hR
  refine rg ⟨⟨by (intros;omega),by (intros;omega)⟩,trivial⟩ ?_
  refine rg ⟨fun hg0=>⟨by with_reducible assumption,by with_reducible assumption,by with_reducible assumption⟩,trivial⟩ ?_
  revert hR;refine cd (fun hc1 hR=>?_) fun hc1 hR=>?_
  ·
    refine rg trivial ?_
    exact congrArg C90 hR
  ·
    refine rg trivial ?_
    refine rg trivial ?_
    revert hR;refine lN (fun i v=>NM i v) (by (exact NM.nil)) rfl fun i1 v1 F1 hn1 hI1 hR hK1=>?_
    refine rg trivial ?_
    refine ⟨fun hc2=>?_,fun hc2=>?_⟩
    · have hii1:i1<x1.length:=by have:=of_decide_eq_true hc2;omega
      replace hR:=loopN_step hR hii1
      refine rg ⟨by (intros;omega),by (have h9:=perm_pre hc1;have h8:=(fam_n h9.1);have h7:=h9.2.2.1 i1 (by omega);have h6:=fam_p h9.1 (k:=(x1.getD i1 default).toNat) (by omega);have h5:=h6.fa;have h4:=h6.mo;omega),trivial⟩ ?_
      revert hR;refine jN (fun v=>True) (fun F101 hR hJ101=>?_) (fun j1 hR hJ1=>?_)
      ·
        refine rg trivial ?_
        revert hR;refine cd (fun hc3 hR=>?_) fun hc3 hR=>?_
        ·
          refine rg ⟨by (have h9:=perm_pre hc1;have h8:=(fam_n h9.1);have h7:=h9.2.2.1 i1 (by omega);have h6:=fam_p h9.1 (k:=(x1.getD i1 default).toNat) (by omega);have h5:=h6.fa;have h4:=h6.mo;have h3:=of_decide_eq_true hc3;omega),trivial⟩ ?_
          exact hJ101 (((l1Inverse x1 ((x0.people.length:Nat):Int)).1).getD (((x0.people.getD ((x1.getD i1 default).toNat) default).father).toNat) default) hR (by exact True.intro)
        ·
          exact hJ101 ((x0.people.getD ((x1.getD i1 default).toNat) default).father) hR (by exact True.intro)
      ·
        refine rg trivial ?_
        revert hR;refine cd (fun hc4 hR=>?_) fun hc4 hR=>?_
        ·
          refine rg ⟨by (have h9:=perm_pre hc1;have h8:=(fam_n h9.1);have h7:=h9.2.2.1 i1 (by omega);have h6:=fam_p h9.1 (k:=(x1.getD i1 default).toNat) (by omega);have h5:=h6.fa;have h4:=h6.mo;have h3:=of_decide_eq_true hc4;omega),trivial⟩ ?_
          refine rg ⟨trivial,by (have h9:=perm_pre hc1;have h8:=(fam_n h9.1);have h7:=h9.2.2.1 i1 (by omega);have h6:=fam_p h9.1 (k:=(x1.getD i1 default).toNat) (by omega);have h5:=h6.fa;have h4:=h6.mo;have h3:=hI1.1;omega),trivial⟩ ?_
          refine rg ⟨by ( intros;simp only [inR];omega),trivial⟩ ?_
          exact hK1 (v1++[(Person.mk ((x0.people.getD ((x1.getD i1 default).toNat) default).name) ((x0.people.getD ((x1.getD i1 default).toNat) default).sex) j1 (((l1Inverse x1 ((x0.people.length:Nat):Int)).1).getD (((x0.people.getD ((x1.getD i1 default).toNat) default).mother).toNat) default) ((x0.people.getD ((x1.getD i1 default).toNat) default).born) ((x0.people.getD ((x1.getD i1 default).toNat) default).died))]) hii1 (by (have h9:=perm_pre hc1;have h8:=(fam_n h9.1);have h7:=h9.2.2.1 i1 (by omega);have h6:=fam_p h9.1 (k:=(x1.getD i1 default).toNat) (by omega);have h5:=h6.fa;have h4:=h6.mo;exact hI1.snoc (by assumption) (by omega) _ _ _ _ _)) hR
        ·
          refine rg ⟨trivial,by (have h9:=perm_pre hc1;have h8:=(fam_n h9.1);have h7:=h9.2.2.1 i1 (by omega);have h6:=fam_p h9.1 (k:=(x1.getD i1 default).toNat) (by omega);have h5:=h6.fa;have h4:=h6.mo;have h3:=hI1.1;omega),trivial⟩ ?_
          refine rg ⟨by ( intros;simp only [inR];omega),trivial⟩ ?_
          exact hK1 (v1++[(Person.mk ((x0.people.getD ((x1.getD i1 default).toNat) default).name) ((x0.people.getD ((x1.getD i1 default).toNat) default).sex) j1 ((x0.people.getD ((x1.getD i1 default).toNat) default).mother) ((x0.people.getD ((x1.getD i1 default).toNat) default).born) ((x0.people.getD ((x1.getD i1 default).toNat) default).died))]) hii1 (by (have h9:=perm_pre hc1;have h8:=(fam_n h9.1);have h7:=h9.2.2.1 i1 (by omega);have h6:=fam_p h9.1 (k:=(x1.getD i1 default).toNat) (by omega);have h5:=h6.fa;have h4:=h6.mo;exact hI1.snoc (by assumption) (by omega) _ _ _ _ _)) hR
    · obtain rfl:i1=x1.length:=by have:=of_decide_eq_false hc2;omega
      replace hR:=loopN_end hR (Nat.lt_irrefl _)
      refine rg trivial ?_
      revert hR;refine lN (fun i v=>v.length≤i) (by (exact Nat.le_refl _)) rfl fun i2 v2 F2 hn2 hI2 hR hK2=>?_
      refine rg trivial ?_
      refine ⟨fun hc5=>?_,fun hc5=>?_⟩
      · have hii2:i2<x0.unions.length:=by have:=of_decide_eq_true hc5;omega
        replace hR:=loopN_step hR hii2
        refine rg ⟨by (intros;omega),trivial⟩ ?_
        refine rg ⟨by (have h9:=perm_pre hc1;have h8:=(fam_n h9.1);have h7:=fam_u h9.1 hii2;have h6:=h7.man;have h5:=h7.woman;omega),by (have h9:=perm_pre hc1;have h8:=(fam_n h9.1);have h7:=fam_u h9.1 hii2;have h6:=h7.man;have h5:=h7.woman;omega),trivial,by omega,trivial⟩ ?_
        refine rg ⟨by ( intros;simp only [inR];omega),trivial⟩ ?_
        exact hK2 (v2++[(Union.mk (((l1Inverse x1 ((x0.people.length:Nat):Int)).1).getD (((x0.unions.getD i2 default).man).toNat) default) (((l1Inverse x1 ((x0.people.length:Nat):Int)).1).getD (((x0.unions.getD i2 default).woman).toNat) default) ((x0.unions.getD i2 default).from0) ((x0.unions.getD i2 default).to))]) hii2 (by (simp only [List.length_append,List.length_singleton];omega)) hR
      · obtain rfl:i2=x0.unions.length:=by have:=of_decide_eq_false hc5;omega
        replace hR:=loopN_end hR (Nat.lt_irrefl _)
        refine rg ⟨⟨by (have h9:=perm_pre hc1;have h8:=(fam_n h9.1);have h3:=hI1.1;dsimp only;omega),by (simp only [List.length_append,List.length_singleton];omega),by (exact hI1.2)⟩,trivial⟩ ?_
        revert hR;refine cd (fun hc6 hR=>?_) fun hc6 hR=>?_
        ·
          refine rg trivial ?_
          exact congrArg C90 hR
        ·
          refine rg trivial ?_
          exact congrArg C90 hR
 exact Fn.go 100 Try.func90 (by kernel_rfl) (by kernel_rfl) (by simp [C90,Frs,FrsL,FrsB,rowOf,cInt,cBool,cStr,cSl,FrsL_app,cPerson,cUnion,cFamily,cEvent,cl01Cur]) (A90 x0 x1) (by kernel_rfl) (aux _ rfl)
def k90 (x0:Family) (x1:List Int):Cl:=(hres (C90 (specPermute x0 x1)),k4 (ok_spec_PermutePeople x0 x1))
def rePerson (pos:List Int) (p:Person):Person:=⟨p.name,p.sex,bif decide (0≤p.father) then pos.getD p.father.toNat default else p.father,bif decide (0≤p.mother) then pos.getD p.mother.toNat default else p.mother,p.born,p.died⟩
def reUnion (pos:List Int) (u:Union):Union:=⟨pos.getD u.man.toNat default,pos.getD u.woman.toNat default,u.from0,u.to⟩
def reFamily (x:Family) (o:List Int):Family:=⟨o.map fun i=>rePerson (l1Inverse o ((x.people.length:Nat):Int)).1 (x.people.getD i.toNat default),x.unions.map (reUnion (l1Inverse o ((x.people.length:Nat):Int)).1)⟩
theorem jn_cond {S α:Type} {c:Bool} {a b:S} {k:S→α}:jn (fun K=>bif c then K a else K b) k=k (bif c then a else b):=by cases c<;>rfl
theorem getD_map {α β:Type} [Inhabited α] [Inhabited β] (f:α→β) {l:List α} {k:Nat} (h:k<l.length):(l.map f).getD k default=f (l.getD k default):=by
 simp [List.getD,h]
structure PermOk (x:Family) (o:List Int):Prop where
 len:o.length=x.people.length
 rng:∀ i:Nat,i<o.length→0≤o.getD i default∧o.getD i default<x.people.length
 plen:(l1Inverse o ((x.people.length:Nat):Int)).1.length=x.people.length
 pos : ∀ q : Int, 0 ≤ q → q < x.people.length → (0 ≤ (l1Inverse o ((x.people.length : Nat) : Int)).1.getD q.toNat default ∧ (l1Inverse o ((x.people.length : Nat) : Int)).1.getD q.toNat default < x.people.length) ∧
   o.getD ((l1Inverse o ((x.people.length:Nat):Int)).1.getD q.toNat default).toNat default=q
 ok:(l1Inverse o ((x.people.length:Nat):Int)).2=true
theorem permOk {x:Family} {o:List Int} (h:o.Perm (upto x.people.length)):PermOk x o:=by
 have hlen:o.length=x.people.length:=by rw [h.length_eq,upto_len]
 have hr:∀ c∈o,0≤c∧c<x.people.length:=fun c hc=>mem_upto.1 (h.mem_iff.1 hc)
 have hi:=inverse_ok o x.people.length
 have hok:=hi.inn hlen hr (h.nodup_iff.2 (upto_nodup _))
 obtain ⟨_,_,h3,h4⟩:=hi.out hok
 refine ⟨hlen,fun i hi=>hr _ (getD_mem hi),h3,fun q h0 h1=>?_,hok⟩
 obtain ⟨k,hk,e⟩:=mem_getD (d:=default) (h.mem_iff.2 (mem_upto.2 ⟨h0,h1⟩))
 have h5:=h4 k hk
 rw [e] at h5
 rw [h5]
 exact ⟨by omega,by rw [Int.toNat_natCast];exact e⟩
theorem permute_val {x:Family} (hx:specIsFamily x=true) {o:List Int} (h:PermOk x o):specPermute x o=bif (!(specIsFamily (reFamily x o))) then ((Family.mk ([]:List Person) ([]:List Union)),false) else (reFamily x o,true):=by
 unfold specPermute
 rw [h.ok,hx]
 simp only [Bool.not_true,Bool.or_false,cond_false]
 refine loopN_to (fun i (v:List Person)=>v=(o.take i).map fun i=>rePerson (l1Inverse o ((x.people.length:Nat):Int)).1 (x.people.getD i.toNat default)) (fun r=>r=_) rfl (fun i v next hi hv hn=>?_) (fun v hv=>?_)
 ·rw [jn_cond]
  have key:∀ p:Person,p=rePerson (l1Inverse o ((x.people.length:Nat):Int)).1 (x.people.getD (o.getD i default).toNat default)→v++[p]=(o.take (i+1)).map fun i=>rePerson (l1Inverse o ((x.people.length:Nat):Int)).1 (x.people.getD i.toNat default):=by
   intro p hp
   rw [take_snoc o default hi,List.map_append,← hv,hp];rfl
  cases c:decide (0≤(x.people.getD (o.getD i default).toNat default).mother)<;>simp only [cond_true,cond_false]
  ·exact hn _ (key _ (by unfold rePerson;rw [c];rfl))
  ·exact hn _ (key _ (by unfold rePerson;rw [c];rfl))
 ·refine loopN_to (fun i (w:List Union)=>w=(x.unions.take i).map (reUnion (l1Inverse o ((x.people.length:Nat):Int)).1)) (fun r=>r=_) rfl (fun i w next hi hw hn=>hn _ ?_) (fun w hw=>?_)
  ·rw [take_snoc x.unions default hi,List.map_append,← hw];rfl
  ·rw [List.take_length] at hv hw
   have e:Family.mk v w=reFamily x o:=by rw [hv,hw];rfl
   rw [e]
theorem perm_fam {x:Family} (hx:specIsFamily x=true) {o:List Int} (h:PermOk x o) (hs:∀ i j:Nat,i≤j→j<o.length→(x.people.getD (o.getD i default).toNat default).born≤(x.people.getD (o.getD j default).toNat default).born):specIsFamily (reFamily x o)=true:=by
 obtain ⟨⟨h1,h2⟩,h3,h4,h5⟩:=(fam_iff x).1 hx
 have hpx:=isFamily_par x hx
 have hlen:=h.len
 have hpl:(reFamily x o).people.length=x.people.length:=by simp [reFamily,hlen]
 have hul:(reFamily x o).unions.length=x.unions.length:=by simp [reFamily]
 have hget:∀ j:Nat,j<x.people.length→(reFamily x o).people.getD j default=rePerson (l1Inverse o ((x.people.length:Nat):Int)).1 (x.people.getD (o.getD j default).toNat default):=fun j hj=>getD_map (fun i:Int=>rePerson (l1Inverse o ((x.people.length:Nat):Int)).1 (x.people.getD i.toNat default)) (l:=o) (by omega)
 have hgu:∀ j:Nat,j<x.unions.length→(reFamily x o).unions.getD j default=reUnion (l1Inverse o ((x.people.length:Nat):Int)).1 (x.unions.getD j default):=fun j hj=>getD_map (reUnion (l1Inverse o ((x.people.length:Nat):Int)).1) (l:=x.unions) hj
 generalize hpos:(l1Inverse o ((x.people.length:Nat):Int)).1=pos at hget hgu
 have hp:∀ q:Int,0≤q→q<x.people.length→(0≤pos.getD q.toNat default∧pos.getD q.toNat default<x.people.length)∧o.getD (pos.getD q.toNat default).toNat default=q:=by
  rw [← hpos];exact h.pos
 have hgp:∀ q:Int,0≤q→q<x.people.length→(reFamily x o).people.getD (pos.getD q.toNat default).toNat default=rePerson pos (x.people.getD q.toNat default):=fun q h0 h1=>by
  obtain ⟨g1,g2⟩:=hp q h0 h1
  rw [hget _ (by omega),g2]
 have hlt:∀ (j:Nat) (q:Int),j<x.people.length→0≤q→q<x.people.length→(x.people.getD q.toNat default).born<(x.people.getD (o.getD j default).toNat default).born→pos.getD q.toNat default<j:=by
  intro j q hj h0 h1 hb
  obtain ⟨g1,g2⟩:=hp q h0 h1
  rcases Int.lt_or_le (pos.getD q.toNat default) j with c | c
  ·exact c
  ·have:=hs j (pos.getD q.toNat default).toNat (by omega) (by omega)
   rw [g2] at this
   omega
 have hinj:∀ i j:Nat,i<o.length→j<o.length→o.getD i default=o.getD j default→i=j:=by
  intro i j hi hj e
  have e1:=(inverse_ok o x.people.length).out h.ok
  have e2:=e1.2.2.2 i hi
  have e3:=e1.2.2.2 j hj
  rw [e] at e2
  omega
 have hP:∀ j:Nat,j<x.people.length→FamP (reFamily x o) j:=by
  intro j hj
  have hr:=h.rng j (by omega)
  have p:=h3 (o.getD j default).toNat (by omega)
  have fa:=p.fa
  have mo:=p.mo
  have e:=hget j hj
  have n1:decide (0≤(-1:Int))=false:=rfl
  refine ⟨by rw [e];exact p.name,by rw [e];exact p.sex,by rw [e];exact p.born,by rw [e];exact p.died,fun i hi=>?_,?_,?_⟩
  ·rw [e,hget i (by omega)]
   have hri:=h.rng i (by omega)
   have hne:(o.getD i default).toNat≠(o.getD j default).toNat:=fun g=>by
    have:=hinj i j (by omega) (by omega) (by omega)
    omega
   show (x.people.getD (o.getD i default).toNat default).name≠(x.people.getD (o.getD j default).toNat default).name
   rcases Nat.lt_or_ge (o.getD i default).toNat (o.getD j default).toNat with g | g
   ·exact p.uniq _ g
   ·exact fun g2=>(h3 (o.getD i default).toNat (by omega)).uniq _ (by omega) g2.symm
  ·rw [e]
   rcases fa with g | g
   ·left;show (bif decide (0≤(x.people.getD (o.getD j default).toNat default).father) then _ else _)=(-1:Int);rw [g,n1];rfl
   ·right
    have ef:(rePerson pos (x.people.getD (o.getD j default).toNat default)).father=pos.getD (x.people.getD (o.getD j default).toNat default).father.toNat default:=by
     show (bif decide (0≤(x.people.getD (o.getD j default).toNat default).father) then _ else _)=_
     rw [decide_eq_true g.1];rfl
    have hl:=hlt j _ hj g.1 (by omega) g.2.2.2.1
    have hpp:=hp _ g.1 (by omega)
    rw [ef,hgp _ g.1 (by omega)]
    exact ⟨hpp.1.1,hl,g.2.2.1,g.2.2.2.1,g.2.2.2.2⟩
  ·rw [e]
   rcases mo with g | g
   ·left;show (bif decide (0≤(x.people.getD (o.getD j default).toNat default).mother) then _ else _)=(-1:Int);rw [g,n1];rfl
   ·right
    have ef:(rePerson pos (x.people.getD (o.getD j default).toNat default)).mother=pos.getD (x.people.getD (o.getD j default).toNat default).mother.toNat default:=by
     show (bif decide (0≤(x.people.getD (o.getD j default).toNat default).mother) then _ else _)=_
     rw [decide_eq_true g.1];rfl
    have hl:=hlt j _ hj g.1 (by omega) g.2.2.2.1
    have hpp:=hp _ g.1 (by omega)
    rw [ef,hgp _ g.1 (by omega)]
    exact ⟨hpp.1.1,hl,g.2.2.1,g.2.2.2.1,g.2.2.2.2⟩
 have hpr:Par (reFamily x o):=fun j hj=>by
  have p:=hP j (by omega)
  have fa:=p.fa
  have mo:=p.mo
  omega
 refine (fam_iff _).2 ⟨⟨by omega,by omega⟩,fun j hj=>hP j (by omega),?_,fun k hk=>?_⟩
 ·suffices hd:∀ n j:Nat,j<n→j<x.people.length→(l1Depths (reFamily x o)).getD j default=(l1Depths x).getD (o.getD j default).toNat default by
   intro j hj
   rw [hd (j+1) j (by omega) (by omega)]
   have hr:=h.rng j (by omega)
   exact h4 _ (by omega)
  intro n
  induction n with
  | zero=>intro j hj;omega
  | succ n ih =>
   intro j hj hjn
   have hr:=h.rng j (by omega)
   rw [(depth_rec _ hpr).2 j (by omega),(depth_rec x hpx).2 _ (by omega)]
   have p:=h3 (o.getD j default).toNat (by omega)
   have fa:=p.fa
   have mo:=p.mo
   have e:=hget j hjn
   have hj2:=hP j hjn
   have fa2:=hj2.fa
   have mo2:=hj2.mo
   have ef:0≤(x.people.getD (o.getD j default).toNat default).father→((reFamily x o).people.getD j default).father=pos.getD (x.people.getD (o.getD j default).toNat default).father.toNat default:=fun g=>by
    rw [e]
    show (bif decide (0≤(x.people.getD (o.getD j default).toNat default).father) then _ else _)=_
    rw [decide_eq_true g];rfl
   have em:0≤(x.people.getD (o.getD j default).toNat default).mother→((reFamily x o).people.getD j default).mother=pos.getD (x.people.getD (o.getD j default).toNat default).mother.toNat default:=fun g=>by
    rw [e]
    show (bif decide (0≤(x.people.getD (o.getD j default).toNat default).mother) then _ else _)=_
    rw [decide_eq_true g];rfl
   have ef0:¬ 0≤(x.people.getD (o.getD j default).toNat default).father→((reFamily x o).people.getD j default).father=(x.people.getD (o.getD j default).toNat default).father:=fun g=>by
    rw [e]
    show (bif decide (0≤(x.people.getD (o.getD j default).toNat default).father) then _ else _)=_
    rw [decide_eq_false g];rfl
   have em0:¬ 0≤(x.people.getD (o.getD j default).toNat default).mother→((reFamily x o).people.getD j default).mother=(x.people.getD (o.getD j default).toNat default).mother:=fun g=>by
    rw [e]
    show (bif decide (0≤(x.people.getD (o.getD j default).toNat default).mother) then _ else _)=_
    rw [decide_eq_false g];rfl
   have iff1:0≤((reFamily x o).people.getD j default).father↔0≤(x.people.getD (o.getD j default).toNat default).father:=by
    by_cases g:0≤(x.people.getD (o.getD j default).toNat default).father
    ·rw [ef g];exact ⟨fun _=>g,fun _=>(hp _ g (by omega)).1.1⟩
    ·rw [ef0 g]
   have iff2:0≤((reFamily x o).people.getD j default).mother↔0≤(x.people.getD (o.getD j default).toNat default).mother:=by
    by_cases g:0≤(x.people.getD (o.getD j default).toNat default).mother
    ·rw [em g];exact ⟨fun _=>g,fun _=>(hp _ g (by omega)).1.1⟩
    ·rw [em0 g]
   refine dOf_cg iff1 iff2 (fun g=>?_) (fun g=>?_)
   ·have g2:=iff1.1 g
    rw [ih _ (by omega) (by omega),ef g2,(hp _ g2 (by omega)).2]
   ·have g2:=iff2.1 g
    rw [ih _ (by omega) (by omega),em g2,(hp _ g2 (by omega)).2]
 ·rw [hul] at hk
  have u:=h5 k hk
  have e:=hgu k hk
  have hm:=u.man;have hw:=u.woman
  have g1:((reFamily x o).unions.getD k default).man=pos.getD (x.unions.getD k default).man.toNat default:=by rw [e];rfl
  have g2:((reFamily x o).unions.getD k default).woman=pos.getD (x.unions.getD k default).woman.toNat default:=by rw [e];rfl
  have g3:((reFamily x o).unions.getD k default).from0=(x.unions.getD k default).from0:=by rw [e];rfl
  have g4:((reFamily x o).unions.getD k default).to=(x.unions.getD k default).to:=by rw [e];rfl
  have pm:=hp _ hm.1 hm.2
  have pw:=hp _ hw.1 hw.2
  refine ⟨by rw [g1];omega,by rw [g2];omega,by rw [g1,hgp _ hm.1 hm.2];exact u.msex,by rw [g2,hgp _ hw.1 hw.2];exact u.wsex,by rw [g1,g2,g3,hgp _ hm.1 hm.2,hgp _ hw.1 hw.2];exact u.from0,by rw [g3,g4];exact u.to,by rw [g1,g3,g4,hgp _ hm.1 hm.2];exact u.mdied,by rw [g2,g3,g4,hgp _ hw.1 hw.2];exact u.wdied,fun j hj=>?_⟩
  have uj:=h5 j (by omega)
  have ej:=hgu j (by omega)
  have j1:((reFamily x o).unions.getD j default).man=pos.getD (x.unions.getD j default).man.toNat default:=by rw [ej];rfl
  have j2:((reFamily x o).unions.getD j default).woman=pos.getD (x.unions.getD j default).woman.toNat default:=by rw [ej];rfl
  rw [g1,g2,j1,j2]
  intro q1 q2
  refine u.uniq j hj ?_ ?_
  ·have a:=(hp _ uj.man.1 uj.man.2).2;rw [q1,pm.2] at a;exact a.symm
  ·have a:=(hp _ uj.woman.1 uj.woman.2).2;rw [q2,pw.2] at a;exact a.symm
theorem fam_reorder {P:List Person} {U:List Union} (h:specIsFamily ⟨P,U⟩=true) {o:List Int} (ho:o.Perm (upto U.length)):specIsFamily ⟨P,o.map fun k=>U.getD k.toNat default⟩=true:=by
 obtain ⟨h1,h2,h3,h4⟩:=(fam_iff _).1 h
 have hl:o.length=U.length:=by rw [ho.length_eq,upto_len]
 have hr:∀ k:Nat,k<o.length→0≤o.getD k default∧o.getD k default<U.length:=fun k hk=>mem_upto.1 (ho.mem_iff.1 (getD_mem hk))
 have hnd:=List.nodup_iff_pairwise_ne.1 (ho.nodup_iff.2 (upto_nodup _))
 dsimp only at h1 h4
 refine (fam_iff _).2 ⟨⟨h1.1,by dsimp only;rw [List.length_map];omega⟩,fun k hk=>?_,h3,fun k hk=>?_⟩
 ·have:=h2 k hk
  exact ⟨this.name,this.sex,this.born,this.died,this.uniq,this.fa,this.mo⟩
 ·dsimp only at hk
  rw [List.length_map] at hk
  have e:∀ j:Nat,j<o.length→(Family.mk P (o.map fun k=>U.getD k.toNat default)).unions.getD j default=U.getD (o.getD j default).toNat default:=fun j hj=>getD_map (fun k:Int=>U.getD k.toNat default) hj
  have hrk:=hr k hk
  obtain ⟨u1,u2,u3,u4,u5,u6,u7,u8,u9⟩:=h4 (o.getD k default).toNat (by omega)
  dsimp only at u1 u2 u3 u4 u5 u6 u7 u8 u9
  refine ⟨by rw [e k hk];exact u1,by rw [e k hk];exact u2,by rw [e k hk];exact u3,by rw [e k hk];exact u4,by rw [e k hk];exact u5,by rw [e k hk];exact u6,by rw [e k hk];exact u7,by rw [e k hk];exact u8,fun j hj=>?_⟩
  rw [e k hk,e j (by omega)]
  have hrj:=hr j (by omega)
  have hne:=getD_pw hnd k hk j hj
  intro q1 q2
  rcases Nat.lt_or_ge (o.getD j default).toNat (o.getD k default).toNat with g | g
  ·exact u9 _ g q1 q2
  ·exact (h4 (o.getD j default).toNat (by omega)).uniq (o.getD k default).toNat (by omega) q1.symm q2.symm
def PBd (r:Family×Bool):Prop:=r.1.people.length≤40∧r.1.unions.length≤60
theorem permute_bd (x:Family) (o:List Int):(specPermute x o).1.people.length≤40∧(specPermute x o).1.unions.length≤60:=by
 suffices key:PBd (specPermute x o) from key
 unfold specPermute
 have h0:PBd ((Family.mk ([]:List Person) ([]:List Union)),false):=⟨Nat.zero_le _,Nat.zero_le _⟩
 refine cond_both (p:=PBd) (fun _=>h0) (fun _=>?_)
 refine loopN_to (fun _ _=>True) PBd trivial (fun i v next hi hv hn=>?_) (fun v hv=>?_)
 ·rw [jn_cond]
  exact cond_both (p:=PBd) (fun _=>hn _ trivial) (fun _=>hn _ trivial)
 ·refine loopN_to (fun _ _=>True) PBd trivial (fun i w next hi hw hn=>hn _ trivial) (fun w hw=>?_)
  refine cond_both (p:=PBd) (fun _=>h0) (fun c=>?_)
  exact fam_n (x:=⟨v,w⟩) (by simpa using c)
end Go.Proofs.Ytepefimocflfkaa
