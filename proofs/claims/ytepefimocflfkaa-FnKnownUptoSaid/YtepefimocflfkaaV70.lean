import Derived.Test.YtepefimocflfkaaM40
set_option maxHeartbeats 4000000
set_option linter.unusedSimpArgs false
set_option linter.unusedVariables false
namespace Go.Proofs.Ytepefimocflfkaa
open Go Go.Lite Go.Proofs
def specKnown (x0:Family) (x1:Int):Family:=bif (!(specIsFamily x0)) then (Family.mk ([]:List Person) ([]:List Union)) else (loopN (fun i1 (v1:(List Int)×(List Person)) next=>bif (decide (x1<((x0.people.getD i1 default).born))) then (next ((v1.1++[((v1.2.length:Nat):Int)]),v1.2)) else (jn (fun K1=>bif (decide (0≤((x0.people.getD i1 default).father))) then (K1 ((v1.1++[((v1.2.length:Nat):Int)]).getD (((x0.people.getD i1 default).father).toNat) default)) else (K1 ((x0.people.getD i1 default).father))) (fun (j1:Int)=>jn (fun K2=>bif (decide (0≤((x0.people.getD i1 default).mother))) then (K2 ((v1.1++[((v1.2.length:Nat):Int)]).getD (((x0.people.getD i1 default).mother).toNat) default)) else (K2 ((x0.people.getD i1 default).mother))) (fun (j2:Int)=>bif (decide (x1<((x0.people.getD i1 default).died))) then (next ((v1.1++[((v1.2.length:Nat):Int)]),(v1.2++[(Person.mk ((x0.people.getD i1 default).name) ((x0.people.getD i1 default).sex) j1 j2 ((x0.people.getD i1 default).born) (-1))]))) else (next ((v1.1++[((v1.2.length:Nat):Int)]),(v1.2++[(Person.mk ((x0.people.getD i1 default).name) ((x0.people.getD i1 default).sex) j1 j2 ((x0.people.getD i1 default).born) ((x0.people.getD i1 default).died))]))))))) (fun (v1:(List Int)×(List Person))=>loopN (fun i2 (v2:(List Union)) next=>bif (decide (x1<((x0.unions.getD i2 default).from0))) then (next v2) else (jn (fun K3=>bif (decide (x1<((x0.unions.getD i2 default).to))) then (K3 (-1)) else (K3 ((x0.unions.getD i2 default).to))) (fun (j3:Int)=>next (v2++[(Union.mk (v1.1.getD (((x0.unions.getD i2 default).man).toNat) default) (v1.1.getD (((x0.unions.getD i2 default).woman).toNat) default) ((x0.unions.getD i2 default).from0) j3)])))) (fun (v2:(List Union))=>(Family.mk v1.2 v2)) x0.unions.length 0 ([]:List Union)) x0.people.length 0 (([]:List Int),([]:List Person)))
def C14 (R:Family):LV×List (Nat×BC):=(.agg [.own 0,.own 1],[(0,.arr 6 R.people.length (rowOf (cPerson true) R.people)),(1,.arr 4 R.unions.length (rowOf (cUnion true) R.unions))])
def implKnown (x0:Family) (x1:Int):Family:=bif (!(implIsFamily x0)) then (Family.mk ([]:List Person) ([]:List Union)) else (loopN (fun i1 (v1:(List Int)×(List Person)) nx1=>bif (decide (x1<((x0.people.getD i1 default).born))) then (nx1 (v1.1,v1.2)) else (jn (fun K1=>bif (decide (0≤((x0.people.getD i1 default).father))) then (K1 ((v1.1.set i1 ((v1.2.length:Nat):Int)).getD (((x0.people.getD i1 default).father).toNat) default)) else (K1 ((x0.people.getD i1 default).father))) (fun (j1:Int)=>jn (fun K2=>bif (decide (0≤((x0.people.getD i1 default).mother))) then (K2 ((v1.1.set i1 ((v1.2.length:Nat):Int)).getD (((x0.people.getD i1 default).mother).toNat) default)) else (K2 ((x0.people.getD i1 default).mother))) (fun (j2:Int)=>bif (decide (x1<((x0.people.getD i1 default).died))) then (nx1 ((v1.1.set i1 ((v1.2.length:Nat):Int)),(v1.2++[(Person.mk ((x0.people.getD i1 default).name) ((x0.people.getD i1 default).sex) j1 j2 ((x0.people.getD i1 default).born) (-1))]))) else (nx1 ((v1.1.set i1 ((v1.2.length:Nat):Int)),(v1.2++[(Person.mk ((x0.people.getD i1 default).name) ((x0.people.getD i1 default).sex) j1 j2 ((x0.people.getD i1 default).born) ((x0.people.getD i1 default).died))]))))))) (fun (v1:(List Int)×(List Person))=>loopN (fun i2 (v2:(List Union)) nx2=>bif (decide (x1<((x0.unions.getD i2 default).from0))) then (nx2 v2) else (jn (fun K3=>bif (decide (x1<((x0.unions.getD i2 default).to))) then (K3 (-1)) else (K3 ((x0.unions.getD i2 default).to))) (fun (j3:Int)=>nx2 (v2++[(Union.mk (v1.1.getD (((x0.unions.getD i2 default).man).toNat) default) (v1.1.getD (((x0.unions.getD i2 default).woman).toNat) default) ((x0.unions.getD i2 default).from0) j3)])))) (fun (v2:(List Union))=>(Family.mk v1.2 v2)) x0.unions.length 0 ([]:List Union)) x0.people.length 0 ((List.replicate x0.people.length (default:Int)),([]:List Person)))
def D14b1 (x0:Family) (x1:Int) (i1:Nat) (v1:(List Int)×(List Person)):Dl:=⟨[(22,.int .i64 ((i1:Nat):Int)),(6,.own 20006)],[(20006,.arr 1 x0.people.length (rowOf (cInt .i64) v1.1)),(30500,.arr 6 v1.2.length (rowOf (cPerson true) v1.2)),(5,.var [.own 30500,.nilS])]⟩
def D14j1 (x0:Family) (x1:Int) (i1:Nat) (v1:(List Int)×(List Person)) (j1:Int):Dl:=⟨[],[(8,.var [.str ((x0.people.getD i1 default).name),.int .i64 ((x0.people.getD i1 default).sex),.int .i64 j1,.int .i64 ((x0.people.getD i1 default).mother),.int .i64 ((x0.people.getD i1 default).born),.int .i64 ((x0.people.getD i1 default).died)])]⟩
def D14j2 (x0:Family) (x1:Int) (i1:Nat) (v1:(List Int)×(List Person)) (j1:Int) (j2:Int):Dl:=⟨[],[(8,.var [.str ((x0.people.getD i1 default).name),.int .i64 ((x0.people.getD i1 default).sex),.int .i64 j1,.int .i64 j2,.int .i64 ((x0.people.getD i1 default).born),.int .i64 ((x0.people.getD i1 default).died)])]⟩
def A14j2 (x0:Family) (x1:Int) (i1:Nat) (v1:(List Int)×(List Person)) (j1:Int) (j2:Int):Ann:=r0 1 [1,2,4,5,6,8,20,21,22,58] [2,4,5,8,20006,30500] (cn (decide (x1<((x0.people.getD i1 default).died))) (r0 1 [1,2,4,5,6,8,20,21,22] [2,4,5,8,20006,30500] (.reg 1 [] [(3,bsC 63 (cPerson true) ([(Person.mk ((x0.people.getD i1 default).name) ((x0.people.getD i1 default).sex) j1 j2 ((x0.people.getD i1 default).born) (-1))]:List Person)),(4,ap1 64 (cPerson true) 56 v1.2 (Person.mk ((x0.people.getD i1 default).name) ((x0.people.getD i1 default).sex) j1 j2 ((x0.people.getD i1 default).born) (-1)))] [1,2,4,5,6,20,21,22] [2,4,5,64,20006] [] [] [] [0,4] (r1 1 [1,2,4,5,6,20,21,22] [2,4,5,64,20006] [pf (inR .i64 (((i1:Nat):Int)+1))] [0] (.next 0 [(20006,some 20006),(30500,some 64)] (D14b1 x0 x1 (i1+1) ((v1.1.set i1 ((v1.2.length:Nat):Int)),(v1.2++[(Person.mk ((x0.people.getD i1 default).name) ((x0.people.getD i1 default).sex) j1 j2 ((x0.people.getD i1 default).born) (-1))]))))))) (.reg 1 [] [(3,bsC 63 (cPerson true) ([(Person.mk ((x0.people.getD i1 default).name) ((x0.people.getD i1 default).sex) j1 j2 ((x0.people.getD i1 default).born) ((x0.people.getD i1 default).died))]:List Person)),(4,ap1 64 (cPerson true) 56 v1.2 (Person.mk ((x0.people.getD i1 default).name) ((x0.people.getD i1 default).sex) j1 j2 ((x0.people.getD i1 default).born) ((x0.people.getD i1 default).died)))] [1,2,4,5,6,20,21,22] [2,4,5,64,20006] [] [] [] [0,4] (r1 1 [1,2,4,5,6,20,21,22] [2,4,5,64,20006] [pf (inR .i64 (((i1:Nat):Int)+1))] [0] (.next 0 [(20006,some 20006),(30500,some 64)] (D14b1 x0 x1 (i1+1) ((v1.1.set i1 ((v1.2.length:Nat):Int)),(v1.2++[(Person.mk ((x0.people.getD i1 default).name) ((x0.people.getD i1 default).sex) j1 j2 ((x0.people.getD i1 default).born) ((x0.people.getD i1 default).died))])))))))
def A14j1 (x0:Family) (x1:Int) (i1:Nat) (v1:(List Int)×(List Person)) (j1:Int):Ann:=.join 0 Int (D14j2 x0 x1 i1 v1 j1) [1,2,4,5,6,8,20,21,22] [2,4,5,30500,20006,8] (r0 1 [1,2,4,5,6,8,20,21,22,48] [2,4,5,8,20006,30500] (cn (decide (0≤((x0.people.getD i1 default).mother))) (r1 1 [1,2,4,5,6,8,20,21,22] [2,4,5,8,20006,30500] [pf (0≤((x0.people.getD i1 default).mother:Int)∧((x0.people.getD i1 default).mother:Int)<((x0.people.length:Nat):Int))] [0] (.next 0 [] (D14j2 x0 x1 i1 v1 j1 ((v1.1.set i1 ((v1.2.length:Nat):Int)).getD (((x0.people.getD i1 default).mother).toNat) default)))) (.next 0 [] (D14j2 x0 x1 i1 v1 j1 ((x0.people.getD i1 default).mother))))) (A14j2 x0 x1 i1 v1 j1)
def D14b2 (x0:Family) (x1:Int) (i1:Nat) (v1:(List Int)×(List Person)) (i2:Nat) (v2:(List Union)):Dl:=⟨[(70,.int .i64 ((i2:Nat):Int))],[(30501,.arr 4 v2.length (rowOf (cUnion true) v2)),(5,.var [.own 30500,.own 30501])]⟩
def D14j3 (x0:Family) (x1:Int) (i1:Nat) (v1:(List Int)×(List Person)) (i2:Nat) (v2:(List Union)) (j3:Int):Dl:=⟨[],[(10,.var [.int .i64 ((x0.unions.getD i2 default).man),.int .i64 ((x0.unions.getD i2 default).woman),.int .i64 ((x0.unions.getD i2 default).from0),.int .i64 j3])]⟩
def A14j3 (x0:Family) (x1:Int) (i1:Nat) (v1:(List Int)×(List Person)) (i2:Nat) (v2:(List Union)) (j3:Int):Ann:=r1 1 [1,4,5,6,10,68,69,70] [4,5,10,20006,30500,30501] [pf (0≤((x0.unions.getD i2 default).man:Int)∧((x0.unions.getD i2 default).man:Int)<((x0.people.length:Nat):Int)),pf (0≤((x0.unions.getD i2 default).woman:Int)∧((x0.unions.getD i2 default).woman:Int)<((x0.people.length:Nat):Int))] [0,4] (.reg 1 [] [(3,bsC 98 (cUnion true) ([(Union.mk (v1.1.getD (((x0.unions.getD i2 default).man).toNat) default) (v1.1.getD (((x0.unions.getD i2 default).woman).toNat) default) ((x0.unions.getD i2 default).from0) j3)]:List Union)),(4,ap1 99 (cUnion true) 32 v2 (Union.mk (v1.1.getD (((x0.unions.getD i2 default).man).toNat) default) (v1.1.getD (((x0.unions.getD i2 default).woman).toNat) default) ((x0.unions.getD i2 default).from0) j3))] [1,4,5,6,68,69,70] [4,5,99,20006,30500] [] [] [] [0,4] (r1 1 [1,4,5,6,68,69,70] [4,5,99,20006,30500] [pf (inR .i64 (((i2:Nat):Int)+1))] [0] (.next 0 [(30501,some 99)] (D14b2 x0 x1 i1 v1 (i2+1) (v2++[(Union.mk (v1.1.getD (((x0.unions.getD i2 default).man).toNat) default) (v1.1.getD (((x0.unions.getD i2 default).woman).toNat) default) ((x0.unions.getD i2 default).from0) j3)])))))
def A14b2 (x0:Family) (x1:Int) (i1:Nat) (v1:(List Int)×(List Person)) (i2:Nat) (v2:(List Union)):Ann:=r0 1 [1,4,5,6,68,69,70,71] [4,5,20006,30500,30501] (cn (decide (((i2:Nat):Int)<((x0.unions.length:Nat):Int))) (r1 1 [1,4,5,6,10,68,69,70] [4,5,10,20006,30500,30501] [pf (0≤(((i2:Nat):Int):Int)∧(((i2:Nat):Int):Int)<((x0.unions.length:Nat):Int))] [0] (r0 1 [1,4,5,6,10,68,69,70,77] [4,5,10,20006,30500,30501] (cn (decide (x1<((x0.unions.getD i2 default).from0))) (r1 1 [1,4,5,6,68,69,70] [4,5,20006,30500,30501] [pf (inR .i64 (((i2:Nat):Int)+1))] [0] (.next 0 [(30501,some 30501)] (D14b2 x0 x1 i1 v1 (i2+1) v2))) (.join 0 Int (D14j3 x0 x1 i1 v1 i2 v2) [1,4,5,6,10,68,69,70] [4,5,30500,30501,20006,10] (r0 1 [1,4,5,6,10,68,69,70,81] [4,5,10,20006,30500,30501] (cn (decide (x1<((x0.unions.getD i2 default).to))) (r0 1 [1,4,5,6,10,68,69,70] [4,5,10,20006,30500,30501] (.next 0 [] (D14j3 x0 x1 i1 v1 i2 v2 (-1)))) (.next 0 [] (D14j3 x0 x1 i1 v1 i2 v2 ((x0.unions.getD i2 default).to))))) (A14j3 x0 x1 i1 v1 i2 v2))))) (r0 1 [4] [4,30500,30501] (rt [(0,some 30500),(1,some 30501)] (C14 (Family.mk v1.2 v2)))))
def A14b1 (x0:Family) (x1:Int) (i1:Nat) (v1:(List Int)×(List Person)):Ann:=r0 1 [1,2,4,5,6,20,21,22,23] [2,4,5,20006,30500] (cn (decide (((i1:Nat):Int)<((x0.people.length:Nat):Int))) (r1 1 [1,2,4,5,6,7,8,20,21,22] [2,4,5,8,20006,30500] [pf (0≤(((i1:Nat):Int):Int)∧(((i1:Nat):Int):Int)<((x0.people.length:Nat):Int))] [0] (r0 1 [1,2,4,5,6,7,8,20,21,22,30] [2,4,5,8,20006,30500] (cn (decide (x1<((x0.people.getD i1 default).born))) (r1 1 [1,2,4,5,6,20,21,22] [2,4,5,20006,30500] [pf (inR .i64 (((i1:Nat):Int)+1))] [0] (.next 0 [(20006,some 20006),(30500,some 30500)] (D14b1 x0 x1 (i1+1) (v1.1,v1.2)))) (.reg 1 [] [(6,stC 20006 (cInt .i64) x0.people.length v1.1 i1 ((v1.2.length:Nat):Int))] [1,2,4,5,6,8,20,21,22] [2,4,5,8,20006,30500] [] [pf (0≤(((i1:Nat):Int):Int)∧(((i1:Nat):Int):Int)<((x0.people.length:Nat):Int))] [] [0,4] (.join 0 Int (D14j1 x0 x1 i1 v1) [1,2,4,5,6,8,20,21,22] [2,4,5,30500,20006,8] (r0 1 [1,2,4,5,6,8,20,21,22,39] [2,4,5,8,20006,30500] (cn (decide (0≤((x0.people.getD i1 default).father))) (r1 1 [1,2,4,5,6,8,20,21,22] [2,4,5,8,20006,30500] [pf (0≤((x0.people.getD i1 default).father:Int)∧((x0.people.getD i1 default).father:Int)<((x0.people.length:Nat):Int))] [0] (.next 0 [] (D14j1 x0 x1 i1 v1 ((v1.1.set i1 ((v1.2.length:Nat):Int)).getD (((x0.people.getD i1 default).father).toNat) default)))) (.next 0 [] (D14j1 x0 x1 i1 v1 ((x0.people.getD i1 default).father))))) (A14j1 x0 x1 i1 v1)))))) (r0 1 [1,4,5,6,68,69,70] [4,5,20006,30500] (lp (D14b2 x0 x1 i1 v1) [] [] [(30501,none)] (D14b2 x0 x1 i1 v1 0 ([]:List Union)) (A14b2 x0 x1 i1 v1))))
def A14 (x0:Family) (x1:Int):Ann:=r0 1 [1,2,4] [2,4] (.reg 1 [] [(1,k50 x0)] [1,2,4,13] [2,4] [] [] [] [0] (cn (!(implIsFamily x0)) (r0 1 [1,2,4] [2,4] (rt [(0,none),(1,none)] (C14 (Family.mk ([]:List Person) ([]:List Union))))) (.reg 2 [] [(1003,msC 18 (cInt .i64) 8 ((x0.people.length:Nat):Int) ((x0.people.length:Nat):Int) x0.people.length (default:Int) (rfl))] [1,2,4,5,6] [2,4,5,18] [] [] [] [0] (r0 1 [1,2,4,5,6,20,21,22] [2,4,5,18] (lp (D14b1 x0 x1) [] [18] [(20006,some 18),(30500,none)] (D14b1 x0 x1 0 ((List.replicate x0.people.length (default:Int)),([]:List Person))) (A14b1 x0 x1))))))
theorem ok_impl_KnownAt (x0:Family) (x1:Int) (hx:x0.people.length≤1048576) (hu:x0.unions.length≤1048576) (hn:∀ p∈x0.people,p.name.length≤1048576):FnT Try.prog 14 [.agg (cFamily false x0),.int .i64 x1] (C14 (implKnown x0 x1)):=by
 have aux:∀ R,implKnown x0 x1=R→slim (C14 R) (A14 x0 x1) []:=by
  intro R hR
  refine rg trivial ?_
  refine rg ⟨⟨by trivial,by trivial,by trivial⟩,trivial⟩ ?_
  revert hR;refine cd (fun hc1 hR=>?_) fun hc1 hR=>?_
  ·
    refine rg trivial ?_
    exact congrArg C14 hR
  ·
    refine rg ⟨by (intros;omega),trivial⟩ ?_
    refine rg trivial ?_
    revert hR;refine lN (fun i v=>v.1.length=x0.people.length∧v.2.length≤i) (by ((try clear hR);intros;(try simp only [decide_eq_true_eq,decide_eq_false_iff_not,Bool.or_eq_true,Bool.and_eq_true,or_f_iff,not_f_iff,not_t_iff,Bool.not_eq_true',inR] at *);(repeat' apply And.intro)<;>(first | (have hv9:specIsFamily x0=true:=(by rw [← isFamily_eq];simpa using hc1);have hn9:=fam_n hv9;(try simp only [decide_eq_true_eq,decide_eq_false_iff_not,List.length_append,List.length_set,List.length_cons,List.length_nil,List.length_replicate] at *);omega) | (simp_all [inR];done)))) rfl fun i1 v1 F1 hn1 hI1 hR hK1=>?_
    refine rg trivial ?_
    refine ⟨fun hc2=>?_,fun hc2=>?_⟩
    · have hii1:i1<x0.people.length:=by have:=of_decide_eq_true hc2;omega
      replace hR:=loopN_step hR hii1
      refine rg ⟨by (intros;omega),trivial⟩ ?_
      refine rg trivial ?_
      revert hR;refine cd (fun hc3 hR=>?_) fun hc3 hR=>?_
      ·
        refine rg ⟨by ( intros;simp only [inR];omega),trivial⟩ ?_
        exact hK1 (v1.1,v1.2) hii1 (by ( intros;simp only [inR];omega)) hR
      ·
        refine rg ⟨by (intros;omega),by (intros;omega),trivial⟩ ?_
        revert hR;refine jN (fun v=>True) (fun F101 hR hJ101=>?_) (fun j1 hR hJ1=>?_)
        ·
          refine rg trivial ?_
          revert hR;refine cd (fun hc4 hR=>?_) fun hc4 hR=>?_
          ·
            refine rg ⟨by (have hv9:specIsFamily x0=true:=(by rw [← isFamily_eq];simpa using hc1);have hn9:=fam_n hv9;have hp9:=fam_p hv9 (k:=i1) hii1;have hf9:=hp9.fa;have hm9:=hp9.mo;have hb9:=hp9.born;have hd9:=hp9.died;have hs9:=hp9.sex;(try simp only [decide_eq_true_eq,decide_eq_false_iff_not,List.length_append,List.length_set,List.length_cons,List.length_nil,List.length_replicate] at *);omega),trivial⟩ ?_
            exact hJ101 ((v1.1.set i1 ((v1.2.length:Nat):Int)).getD (((x0.people.getD i1 default).father).toNat) default) hR (by trivial)
          ·
            exact hJ101 ((x0.people.getD i1 default).father) hR (by trivial)
        ·
          revert hR;refine jN (fun v=>True) (fun F102 hR hJ102=>?_) (fun j2 hR hJ2=>?_)
          ·
            refine rg trivial ?_
            revert hR;refine cd (fun hc5 hR=>?_) fun hc5 hR=>?_
            ·
              refine rg ⟨by (have hv9:specIsFamily x0=true:=(by rw [← isFamily_eq];simpa using hc1);have hn9:=fam_n hv9;have hp9:=fam_p hv9 (k:=i1) hii1;have hf9:=hp9.fa;have hm9:=hp9.mo;have hb9:=hp9.born;have hd9:=hp9.died;have hs9:=hp9.sex;(try simp only [decide_eq_true_eq,decide_eq_false_iff_not,List.length_append,List.length_set,List.length_cons,List.length_nil,List.length_replicate] at *);omega),trivial⟩ ?_
              exact hJ102 ((v1.1.set i1 ((v1.2.length:Nat):Int)).getD (((x0.people.getD i1 default).mother).toNat) default) hR (by trivial)
            ·
              exact hJ102 ((x0.people.getD i1 default).mother) hR (by trivial)
          ·
            refine rg trivial ?_
            revert hR;refine cd (fun hc6 hR=>?_) fun hc6 hR=>?_
            ·
              refine rg trivial ?_
              refine rg ⟨trivial,by omega,trivial⟩ ?_
              refine rg ⟨by ( intros;simp only [inR];omega),trivial⟩ ?_
              exact hK1 ((v1.1.set i1 ((v1.2.length:Nat):Int)),(v1.2++[(Person.mk ((x0.people.getD i1 default).name) ((x0.people.getD i1 default).sex) j1 j2 ((x0.people.getD i1 default).born) (-1))])) hii1 (by (have hv9:specIsFamily x0=true:=(by rw [← isFamily_eq];simpa using hc1);have hn9:=fam_n hv9;have hp9:=fam_p hv9 (k:=i1) hii1;have hf9:=hp9.fa;have hm9:=hp9.mo;have hb9:=hp9.born;have hd9:=hp9.died;have hs9:=hp9.sex;(try simp only [decide_eq_true_eq,decide_eq_false_iff_not,List.length_append,List.length_set,List.length_cons,List.length_nil,List.length_replicate] at *);omega)) hR
            ·
              refine rg ⟨trivial,by omega,trivial⟩ ?_
              refine rg ⟨by ( intros;simp only [inR];omega),trivial⟩ ?_
              exact hK1 ((v1.1.set i1 ((v1.2.length:Nat):Int)),(v1.2++[(Person.mk ((x0.people.getD i1 default).name) ((x0.people.getD i1 default).sex) j1 j2 ((x0.people.getD i1 default).born) ((x0.people.getD i1 default).died))])) hii1 (by (have hv9:specIsFamily x0=true:=(by rw [← isFamily_eq];simpa using hc1);have hn9:=fam_n hv9;have hp9:=fam_p hv9 (k:=i1) hii1;have hf9:=hp9.fa;have hm9:=hp9.mo;have hb9:=hp9.born;have hd9:=hp9.died;have hs9:=hp9.sex;(try simp only [decide_eq_true_eq,decide_eq_false_iff_not,List.length_append,List.length_set,List.length_cons,List.length_nil,List.length_replicate] at *);omega)) hR
    · obtain rfl:i1=x0.people.length:=by have:=of_decide_eq_false hc2;omega
      replace hR:=loopN_end hR (Nat.lt_irrefl _)
      refine rg trivial ?_
      revert hR;refine lN (fun i v=>v.length≤i) (by trivial) rfl fun i2 v2 F2 hn2 hI2 hR hK2=>?_
      refine rg trivial ?_
      refine ⟨fun hc7=>?_,fun hc7=>?_⟩
      · have hii2:i2<x0.unions.length:=by have:=of_decide_eq_true hc7;omega
        replace hR:=loopN_step hR hii2
        refine rg ⟨by (intros;omega),trivial⟩ ?_
        refine rg trivial ?_
        revert hR;refine cd (fun hc8 hR=>?_) fun hc8 hR=>?_
        ·
          refine rg ⟨by ( intros;simp only [inR];omega),trivial⟩ ?_
          exact hK2 v2 hii2 (by (intros;omega)) hR
        ·
          revert hR;refine jN (fun v=>True) (fun F103 hR hJ103=>?_) (fun j3 hR hJ3=>?_)
          ·
            refine rg trivial ?_
            revert hR;refine cd (fun hc9 hR=>?_) fun hc9 hR=>?_
            ·
              refine rg trivial ?_
              exact hJ103 (-1) hR (by trivial)
            ·
              exact hJ103 ((x0.unions.getD i2 default).to) hR (by trivial)
          ·
            refine rg ⟨by (have hv9:specIsFamily x0=true:=(by rw [← isFamily_eq];simpa using hc1);have hn9:=fam_n hv9;have hu9:=fam_u hv9 (k:=i2) hii2;have h91:=hu9.man;have h92:=hu9.woman;have h93:=hu9.from0;have h94:=hu9.to;(try simp only [decide_eq_true_eq,decide_eq_false_iff_not,List.length_append,List.length_set,List.length_cons,List.length_nil,List.length_replicate] at *);omega),by (have hv9:specIsFamily x0=true:=(by rw [← isFamily_eq];simpa using hc1);have hn9:=fam_n hv9;have hu9:=fam_u hv9 (k:=i2) hii2;have h91:=hu9.man;have h92:=hu9.woman;have h93:=hu9.from0;have h94:=hu9.to;(try simp only [decide_eq_true_eq,decide_eq_false_iff_not,List.length_append,List.length_set,List.length_cons,List.length_nil,List.length_replicate] at *);omega),trivial⟩ ?_
            refine rg ⟨trivial,by omega,trivial⟩ ?_
            refine rg ⟨by ( intros;simp only [inR];omega),trivial⟩ ?_
            exact hK2 (v2++[(Union.mk (v1.1.getD (((x0.unions.getD i2 default).man).toNat) default) (v1.1.getD (((x0.unions.getD i2 default).woman).toNat) default) ((x0.unions.getD i2 default).from0) j3)]) hii2 (by (have hv9:specIsFamily x0=true:=(by rw [← isFamily_eq];simpa using hc1);have hn9:=fam_n hv9;have hu9:=fam_u hv9 (k:=i2) hii2;have h91:=hu9.man;have h92:=hu9.woman;have h93:=hu9.from0;have h94:=hu9.to;(try simp only [decide_eq_true_eq,decide_eq_false_iff_not,List.length_append,List.length_set,List.length_cons,List.length_nil,List.length_replicate] at *);omega)) hR
      · obtain rfl:i2=x0.unions.length:=by have:=of_decide_eq_false hc7;omega
        replace hR:=loopN_end hR (Nat.lt_irrefl _)
        refine rg trivial ?_
        exact congrArg C14 hR
 exact Fn.go 103 Try.func14 (by kernel_rfl) (by kernel_rfl) (by simp [C14,Frs,FrsL,FrsB,rowOf,cInt,cBool,cStr,cSl,FrsL_app,cPerson,cUnion,cFamily]) (A14 x0 x1) (by kernel_rfl) (aux _ rfl)
def k14 (x0:Family) (x1:Int):Cl:=(hres (C14 (implKnown x0 x1)),k3 (ok_impl_KnownAt x0 x1))
end Go.Proofs.Ytepefimocflfkaa
