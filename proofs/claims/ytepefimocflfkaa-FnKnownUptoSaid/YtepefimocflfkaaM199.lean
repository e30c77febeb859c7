import Derived.Test.YtepefimocflfkaaVS95
set_option maxHeartbeats 4000000
set_option linter.unusedSimpArgs false
set_option linter.unusedVariables false
namespace Go.Proofs.Ytepefimocflfkaa
open Go Go.Lite Go.Proofs
def C118 (R:(List Int)):LV×List (Nat×BC):=(.own 0,[(0,.arr 1 R.length (rowOf (cInt .i64) R))])
def identL (x0:Int):(List Int):=loopN (fun i1 (v1:(List Int)) next=>next (v1++[((i1:Nat):Int)])) (fun (v1:(List Int))=>v1) x0.toNat 0 ([]:List Int)
def D118b1 (x0:Int) (i1:Nat) (v1:(List Int)):Dl:=⟨[(6,.int .i64 ((i1:Nat):Int)),(3,.own 20003)],[(20003,.arr 1 v1.length (rowOf (cInt .i64) v1))]⟩
def A118b1 (x0:Int) (i1:Nat) (v1:(List Int)):Ann:=r0 1 [2,3,5,6,7] [20003] (cn (decide (((i1:Nat):Int)<x0)) (r0 1 [2,3,4,5,6] [20003] (.reg 1 [] [(2,bsC 11 (cInt .i64) ([((i1:Nat):Int)]:List Int)),(3,ap1 12 (cInt .i64) 8 v1 ((i1:Nat):Int))] [2,3,5,6] [12] [] [] [] [0,4] (r1 1 [2,3,5,6] [12] [pf (inR .i64 (((i1:Nat):Int)+1))] [0] (.next 0 [(20003,some 12)] (D118b1 x0 (i1+1) (v1++[((i1:Nat):Int)])))))) (r0 1 [2] [20003] (rt [(0,some 20003)] (C118 v1))))
def A118 (x0:Int):Ann:=r0 2 [0,2,3] [] (r0 1 [2,3,5,6] [] (lp (D118b1 x0) [] [] [(20003,none)] (D118b1 x0 0 ([]:List Int)) (A118b1 x0)))
theorem ok_impl_identity (x0:Int) (h:0≤x0∧x0≤1000):FnT Try.prog 118 [.int .i64 x0] (C118 (identL x0)):=by
 have aux:∀ R,identL x0=R→slim (C118 R) (A118 x0) []:=by
  intro R hR
  refine rg trivial ?_
  refine rg trivial ?_
  revert hR;refine lN (fun i v=>v.length=i) (by (exact rfl)) rfl fun i1 v1 F1 hn1 hI1 hR hK1=>?_
  refine rg trivial ?_
  refine ⟨fun hc1=>?_,fun hc1=>?_⟩
  ·have hii1:i1<x0.toNat:=by have:=of_decide_eq_true hc1;omega
   replace hR:=loopN_step hR hii1
   refine rg trivial ?_
   refine rg ⟨trivial,by omega,trivial⟩ ?_
   refine rg ⟨by ( intros;simp only [inR];omega),trivial⟩ ?_
   exact hK1 (v1++[((i1:Nat):Int)]) hii1 (by (simp only [List.length_append,List.length_singleton];omega)) hR
  ·obtain rfl:i1=x0.toNat:=by have:=of_decide_eq_false hc1;omega
   replace hR:=loopN_end hR (Nat.lt_irrefl _)
   refine rg trivial ?_
   exact congrArg C118 hR
 exact Fn.go 15 Try.func118 (by kernel_rfl) (by kernel_rfl) (by simp [C118,Frs,FrsL,FrsB,rowOf,cInt,cBool,cStr,cSl,FrsL_app,cPerson,cUnion,cFamily,cEvent,cl01Cur]) (A118 x0) (by kernel_rfl) (aux _ rfl)
def k118 (x0:Int):Cl:=(hres (C118 (identL x0)),k1 (ok_impl_identity x0))
def C120 (R:Family):LV×List (Nat×BC):=(.agg [.own 0,.own 1],[(0,.arr 6 R.people.length (rowOf (cPerson true) R.people)),(1,.arr 4 R.unions.length (rowOf (cUnion true) R.unions))])
def ordered (x0:Family) (x1:List Int):Family:=loopN (fun i1 (v1:(List Int)) next=>next (v1.set ((x1.getD i1 default).toNat) ((i1:Nat):Int))) (fun (v1:(List Int))=>loopN (fun i2 (v2:(List Person)) next=>jn (fun K1=>bif (decide (0≤((x0.people.getD ((x1.getD i2 default).toNat) default).father))) then (K1 (v1.getD (((x0.people.getD ((x1.getD i2 default).toNat) default).father).toNat) default)) else (K1 ((x0.people.getD ((x1.getD i2 default).toNat) default).father))) (fun (j1:Int)=>bif (decide (0≤((x0.people.getD ((x1.getD i2 default).toNat) default).mother))) then (next (v2++[(Person.mk ((x0.people.getD ((x1.getD i2 default).toNat) default).name) ((x0.people.getD ((x1.getD i2 default).toNat) default).sex) j1 (v1.getD (((x0.people.getD ((x1.getD i2 default).toNat) default).mother).toNat) default) ((x0.people.getD ((x1.getD i2 default).toNat) default).born) ((x0.people.getD ((x1.getD i2 default).toNat) default).died))])) else (next (v2++[(Person.mk ((x0.people.getD ((x1.getD i2 default).toNat) default).name) ((x0.people.getD ((x1.getD i2 default).toNat) default).sex) j1 ((x0.people.getD ((x1.getD i2 default).toNat) default).mother) ((x0.people.getD ((x1.getD i2 default).toNat) default).born) ((x0.people.getD ((x1.getD i2 default).toNat) default).died))])))) (fun (v2:(List Person))=>loopN (fun i3 (v3:(List Union)) next=>next (v3++[(Union.mk (v1.getD (((x0.unions.getD i3 default).man).toNat) default) (v1.getD (((x0.unions.getD i3 default).woman).toNat) default) ((x0.unions.getD i3 default).from0) ((x0.unions.getD i3 default).to))])) (fun (v3:(List Union))=>(Family.mk v2 v3)) x0.unions.length 0 ([]:List Union)) x1.length 0 ([]:List Person)) x1.length 0 (List.replicate x1.length (default:Int))
def D120b1 (x0:Family) (x1:List Int) (i1:Nat) (v1:(List Int)):Dl:=⟨[(19,.int .i64 ((i1:Nat):Int)),(5,.own 20005)],[(20005,.arr 1 x1.length (rowOf (cInt .i64) v1))]⟩
def D120b2 (x0:Family) (x1:List Int) (i1:Nat) (v1:(List Int)) (i2:Nat) (v2:(List Person)):Dl:=⟨[(31,.int .i64 ((i2:Nat):Int))],[(30800,.arr 6 v2.length (rowOf (cPerson true) v2)),(8,.var [.own 30800,.nilS])]⟩
def D120j1 (x0:Family) (x1:List Int) (i1:Nat) (v1:(List Int)) (i2:Nat) (v2:(List Person)) (j1:Int):Dl:=⟨[],[(11,.var [.str ((x0.people.getD ((x1.getD i2 default).toNat) default).name),.int .i64 ((x0.people.getD ((x1.getD i2 default).toNat) default).sex),.int .i64 j1,.int .i64 ((x0.people.getD ((x1.getD i2 default).toNat) default).mother),.int .i64 ((x0.people.getD ((x1.getD i2 default).toNat) default).born),.int .i64 ((x0.people.getD ((x1.getD i2 default).toNat) default).died)])]⟩
def A120j1 (x0:Family) (x1:List Int) (i1:Nat) (v1:(List Int)) (i2:Nat) (v2:(List Person)) (j1:Int):Ann:=r0 1 [2,4,5,8,11,29,30,31,51] [2,4,8,11,20005,30800] (cn (decide (0≤((x0.people.getD ((x1.getD i2 default).toNat) default).mother))) (r1 1 [2,4,5,8,11,29,30,31] [2,4,8,11,20005,30800] [pf (0≤((x0.people.getD ((x1.getD i2 default).toNat) default).mother:Int)∧((x0.people.getD ((x1.getD i2 default).toNat) default).mother:Int)<((x1.length:Nat):Int))] [0] (.reg 1 [] [(3,bsC 61 (cPerson true) ([(Person.mk ((x0.people.getD ((x1.getD i2 default).toNat) default).name) ((x0.people.getD ((x1.getD i2 default).toNat) default).sex) j1 (v1.getD (((x0.people.getD ((x1.getD i2 default).toNat) default).mother).toNat) default) ((x0.people.getD ((x1.getD i2 default).toNat) default).born) ((x0.people.getD ((x1.getD i2 default).toNat) default).died))]:List Person)),(4,ap1 62 (cPerson true) 56 v2 (Person.mk ((x0.people.getD ((x1.getD i2 default).toNat) default).name) ((x0.people.getD ((x1.getD i2 default).toNat) default).sex) j1 (v1.getD (((x0.people.getD ((x1.getD i2 default).toNat) default).mother).toNat) default) ((x0.people.getD ((x1.getD i2 default).toNat) default).born) ((x0.people.getD ((x1.getD i2 default).toNat) default).died)))] [2,4,5,8,29,30,31] [2,4,8,62,20005] [] [] [] [0,4] (r1 1 [2,4,5,8,29,30,31] [2,4,8,62,20005] [pf (inR .i64 (((i2:Nat):Int)+1))] [0] (.next 0 [(30800,some 62)] (D120b2 x0 x1 i1 v1 (i2+1) (v2++[(Person.mk ((x0.people.getD ((x1.getD i2 default).toNat) default).name) ((x0.people.getD ((x1.getD i2 default).toNat) default).sex) j1 (v1.getD (((x0.people.getD ((x1.getD i2 default).toNat) default).mother).toNat) default) ((x0.people.getD ((x1.getD i2 default).toNat) default).born) ((x0.people.getD ((x1.getD i2 default).toNat) default).died))])))))) (.reg 1 [] [(3,bsC 61 (cPerson true) ([(Person.mk ((x0.people.getD ((x1.getD i2 default).toNat) default).name) ((x0.people.getD ((x1.getD i2 default).toNat) default).sex) j1 ((x0.people.getD ((x1.getD i2 default).toNat) default).mother) ((x0.people.getD ((x1.getD i2 default).toNat) default).born) ((x0.people.getD ((x1.getD i2 default).toNat) default).died))]:List Person)),(4,ap1 62 (cPerson true) 56 v2 (Person.mk ((x0.people.getD ((x1.getD i2 default).toNat) default).name) ((x0.people.getD ((x1.getD i2 default).toNat) default).sex) j1 ((x0.people.getD ((x1.getD i2 default).toNat) default).mother) ((x0.people.getD ((x1.getD i2 default).toNat) default).born) ((x0.people.getD ((x1.getD i2 default).toNat) default).died)))] [2,4,5,8,29,30,31] [2,4,8,62,20005] [] [] [] [0,4] (r1 1 [2,4,5,8,29,30,31] [2,4,8,62,20005] [pf (inR .i64 (((i2:Nat):Int)+1))] [0] (.next 0 [(30800,some 62)] (D120b2 x0 x1 i1 v1 (i2+1) (v2++[(Person.mk ((x0.people.getD ((x1.getD i2 default).toNat) default).name) ((x0.people.getD ((x1.getD i2 default).toNat) default).sex) j1 ((x0.people.getD ((x1.getD i2 default).toNat) default).mother) ((x0.people.getD ((x1.getD i2 default).toNat) default).born) ((x0.people.getD ((x1.getD i2 default).toNat) default).died))]))))))
def D120b3 (x0:Family) (x1:List Int) (i1:Nat) (v1:(List Int)) (i2:Nat) (v2:(List Person)) (i3:Nat) (v3:(List Union)):Dl:=⟨[(68,.int .i64 ((i3:Nat):Int))],[(30801,.arr 4 v3.length (rowOf (cUnion true) v3)),(8,.var [.own 30800,.own 30801])]⟩
def A120b3 (x0:Family) (x1:List Int) (i1:Nat) (v1:(List Int)) (i2:Nat) (v2:(List Person)) (i3:Nat) (v3:(List Union)):Ann:=r0 1 [4,5,8,66,67,68,69] [4,8,20005,30800,30801] (cn (decide (((i3:Nat):Int)<((x0.unions.length:Nat):Int))) (r1 2 [4,5,8,13,66,67,68] [4,8,13,20005,30800,30801] [pf (0≤(((i3:Nat):Int):Int)∧(((i3:Nat):Int):Int)<((x0.unions.length:Nat):Int)),pf (0≤((x0.unions.getD i3 default).man:Int)∧((x0.unions.getD i3 default).man:Int)<((x1.length:Nat):Int)),pf (0≤((x0.unions.getD i3 default).woman:Int)∧((x0.unions.getD i3 default).woman:Int)<((x1.length:Nat):Int))] [0,4,8] (.reg 1 [] [(3,bsC 87 (cUnion true) ([(Union.mk (v1.getD (((x0.unions.getD i3 default).man).toNat) default) (v1.getD (((x0.unions.getD i3 default).woman).toNat) default) ((x0.unions.getD i3 default).from0) ((x0.unions.getD i3 default).to))]:List Union)),(4,ap1 88 (cUnion true) 32 v3 (Union.mk (v1.getD (((x0.unions.getD i3 default).man).toNat) default) (v1.getD (((x0.unions.getD i3 default).woman).toNat) default) ((x0.unions.getD i3 default).from0) ((x0.unions.getD i3 default).to)))] [4,5,8,66,67,68] [4,8,88,20005,30800] [] [] [] [0,4] (r1 1 [4,5,8,66,67,68] [4,8,88,20005,30800] [pf (inR .i64 (((i3:Nat):Int)+1))] [0] (.next 0 [(30801,some 88)] (D120b3 x0 x1 i1 v1 i2 v2 (i3+1) (v3++[(Union.mk (v1.getD (((x0.unions.getD i3 default).man).toNat) default) (v1.getD (((x0.unions.getD i3 default).woman).toNat) default) ((x0.unions.getD i3 default).from0) ((x0.unions.getD i3 default).to))])))))) (r0 1 [4] [4,30800,30801] (rt [(0,some 30800),(1,some 30801)] (C120 (Family.mk v2 v3)))))
def A120b2 (x0:Family) (x1:List Int) (i1:Nat) (v1:(List Int)) (i2:Nat) (v2:(List Person)):Ann:=r0 1 [2,4,5,8,29,30,31,32] [2,4,8,20005,30800] (cn (decide (((i2:Nat):Int)<((x1.length:Nat):Int))) (r1 2 [2,4,5,8,11,29,30,31] [2,4,8,11,20005,30800] [pf (0≤(((i2:Nat):Int):Int)∧(((i2:Nat):Int):Int)<((x1.length:Nat):Int)),pf (0≤((x1.getD i2 default):Int)∧((x1.getD i2 default):Int)<((x0.people.length:Nat):Int))] [0,4] (.join 0 Int (D120j1 x0 x1 i1 v1 i2 v2) [2,4,5,8,11,29,30,31] [2,4,20005,8,30800,11] (r0 1 [2,4,5,8,11,29,30,31,42] [2,4,8,11,20005,30800] (cn (decide (0≤((x0.people.getD ((x1.getD i2 default).toNat) default).father))) (r1 1 [2,4,5,8,11,29,30,31] [2,4,8,11,20005,30800] [pf (0≤((x0.people.getD ((x1.getD i2 default).toNat) default).father:Int)∧((x0.people.getD ((x1.getD i2 default).toNat) default).father:Int)<((x1.length:Nat):Int))] [0] (.next 0 [] (D120j1 x0 x1 i1 v1 i2 v2 (v1.getD (((x0.people.getD ((x1.getD i2 default).toNat) default).father).toNat) default)))) (.next 0 [] (D120j1 x0 x1 i1 v1 i2 v2 ((x0.people.getD ((x1.getD i2 default).toNat) default).father))))) (A120j1 x0 x1 i1 v1 i2 v2))) (r0 1 [4,5,8,66,67,68] [4,8,20005,30800] (lp (D120b3 x0 x1 i1 v1 i2 v2) [] [] [(30801,none)] (D120b3 x0 x1 i1 v1 i2 v2 0 ([]:List Union)) (A120b3 x0 x1 i1 v1 i2 v2))))
def A120b1 (x0:Family) (x1:List Int) (i1:Nat) (v1:(List Int)):Ann:=r0 1 [1,2,4,5,17,18,19,20] [2,4,20005] (cn (decide (((i1:Nat):Int)<((x1.length:Nat):Int))) (r1 1 [1,2,4,5,6,7,17,18,19] [2,4,20005] [pf (0≤(((i1:Nat):Int):Int)∧(((i1:Nat):Int):Int)<((x1.length:Nat):Int))] [0] (.reg 1 [] [(4,stC 20005 (cInt .i64) x1.length v1 ((x1.getD i1 default).toNat) ((i1:Nat):Int))] [1,2,4,5,17,18,19] [2,4,20005] [] [pf (0≤((x1.getD i1 default):Int)∧((x1.getD i1 default):Int)<((x1.length:Nat):Int))] [] [0,4] (r1 1 [1,2,4,5,17,18,19] [2,4,20005] [pf (inR .i64 (((i1:Nat):Int)+1))] [0] (.next 0 [(20005,some 20005)] (D120b1 x0 x1 (i1+1) (v1.set ((x1.getD i1 default).toNat) ((i1:Nat):Int))))))) (r0 1 [1,2,4,5,8] [2,4,8,20005] (r0 1 [2,4,5,8,29,30,31] [2,4,8,20005] (lp (D120b2 x0 x1 i1 v1) [] [] [(30800,none)] (D120b2 x0 x1 i1 v1 0 ([]:List Person)) (A120b2 x0 x1 i1 v1)))))
def A120 (x0:Family) (x1:List Int):Ann:=.reg 2 [] [(1002,msC 16 (cInt .i64) 8 ((x1.length:Nat):Int) ((x1.length:Nat):Int) x1.length (default:Int) (rfl))] [1,2,4,5] [2,4,16] [] [] [] [0] (r0 1 [1,2,4,5,17,18,19] [2,4,16] (lp (D120b1 x0 x1) [] [16] [(20005,some 16)] (D120b1 x0 x1 0 (List.replicate x1.length (default:Int))) (A120b1 x0 x1)))
theorem ok_impl_ordered (x0:Family) (x1:List Int) (hx:x0.people.length≤1048576) (hu:x0.unions.length≤1048576) (hn:∀ p∈x0.people,p.name.length≤1048576) (hf:specIsFamily x0=true) (ho:x1.length=x0.people.length) (hr:∀ i:Nat,i<x1.length→0≤x1.getD i default∧x1.getD i default<x0.people.length):FnT Try.prog 120 [.agg (cFamily false x0),.ro false 1 x1.length (rowOf (cInt .i64) x1)] (C120 (ordered x0 x1)):=by
 have aux:∀ R,ordered x0 x1=R→slim (C120 R) (A120 x0 x1) []:=by
  intro R hR
  refine rg ⟨by (intros;omega),trivial⟩ ?_
  refine rg trivial ?_
  revert hR;refine lN (fun i v=>v.length=x1.length) (by (exact List.length_replicate)) rfl fun i1 v1 F1 hn1 hI1 hR hK1=>?_
  refine rg trivial ?_
  refine ⟨fun hc1=>?_,fun hc1=>?_⟩
  ·have hii1:i1<x1.length:=by have:=of_decide_eq_true hc1;omega
   replace hR:=loopN_step hR hii1
   refine rg ⟨by (intros;omega),trivial⟩ ?_
   refine rg ⟨by (have h7:=hr i1 (by omega);omega),by (have h7:=hr i1 (by omega);omega),trivial⟩ ?_
   refine rg ⟨by ( intros;simp only [inR];omega),trivial⟩ ?_
   exact hK1 (v1.set ((x1.getD i1 default).toNat) ((i1:Nat):Int)) hii1 (by (simp only [List.length_set];omega)) hR
  ·obtain rfl:i1=x1.length:=by have:=of_decide_eq_false hc1;omega
   replace hR:=loopN_end hR (Nat.lt_irrefl _)
   refine rg trivial ?_
   refine rg trivial ?_
   revert hR;refine lN (fun i v=>v.length≤i) (by (exact Nat.le_refl _)) rfl fun i2 v2 F2 hn2 hI2 hR hK2=>?_
   refine rg trivial ?_
   refine ⟨fun hc2=>?_,fun hc2=>?_⟩
   ·have hii2:i2<x1.length:=by have:=of_decide_eq_true hc2;omega
    replace hR:=loopN_step hR hii2
    refine rg ⟨by (intros;omega),by (have h8:=fam_n hf;have h7:=hr i2 (by omega);have h6:=fam_p hf (k:=(x1.getD i2 default).toNat) (by omega);have h5:=h6.fa;have h4:=h6.mo;omega),trivial⟩ ?_
    revert hR;refine jN (fun v=>True) (fun F101 hR hJ101=>?_) (fun j1 hR hJ1=>?_)
    ·
      refine rg trivial ?_
      revert hR;refine cd (fun hc3 hR=>?_) fun hc3 hR=>?_
      ·
        refine rg ⟨by (have h8:=fam_n hf;have h7:=hr i2 (by omega);have h6:=fam_p hf (k:=(x1.getD i2 default).toNat) (by omega);have h5:=h6.fa;have h4:=h6.mo;have h3:=of_decide_eq_true hc3;omega),trivial⟩ ?_
        exact hJ101 (v1.getD (((x0.people.getD ((x1.getD i2 default).toNat) default).father).toNat) default) hR (by exact True.intro)
      ·
        exact hJ101 ((x0.people.getD ((x1.getD i2 default).toNat) default).father) hR (by exact True.intro)
    ·
      refine rg trivial ?_
      revert hR;refine cd (fun hc4 hR=>?_) fun hc4 hR=>?_
      ·
        refine rg ⟨by (have h8:=fam_n hf;have h7:=hr i2 (by omega);have h6:=fam_p hf (k:=(x1.getD i2 default).toNat) (by omega);have h5:=h6.fa;have h4:=h6.mo;have h3:=of_decide_eq_true hc4;omega),trivial⟩ ?_
        refine rg ⟨trivial,by omega,trivial⟩ ?_
        refine rg ⟨by ( intros;simp only [inR];omega),trivial⟩ ?_
        exact hK2 (v2++[(Person.mk ((x0.people.getD ((x1.getD i2 default).toNat) default).name) ((x0.people.getD ((x1.getD i2 default).toNat) default).sex) j1 (v1.getD (((x0.people.getD ((x1.getD i2 default).toNat) default).mother).toNat) default) ((x0.people.getD ((x1.getD i2 default).toNat) default).born) ((x0.people.getD ((x1.getD i2 default).toNat) default).died))]) hii2 (by (simp only [List.length_append,List.length_singleton];omega)) hR
      ·
        refine rg ⟨trivial,by omega,trivial⟩ ?_
        refine rg ⟨by ( intros;simp only [inR];omega),trivial⟩ ?_
        exact hK2 (v2++[(Person.mk ((x0.people.getD ((x1.getD i2 default).toNat) default).name) ((x0.people.getD ((x1.getD i2 default).toNat) default).sex) j1 ((x0.people.getD ((x1.getD i2 default).toNat) default).mother) ((x0.people.getD ((x1.getD i2 default).toNat) default).born) ((x0.people.getD ((x1.getD i2 default).toNat) default).died))]) hii2 (by (simp only [List.length_append,List.length_singleton];omega)) hR
   ·obtain rfl:i2=x1.length:=by have:=of_decide_eq_false hc2;omega
    replace hR:=loopN_end hR (Nat.lt_irrefl _)
    refine rg trivial ?_
    revert hR;refine lN (fun i v=>v.length≤i) (by (exact Nat.le_refl _)) rfl fun i3 v3 F3 hn3 hI3 hR hK3=>?_
    refine rg trivial ?_
    refine ⟨fun hc5=>?_,fun hc5=>?_⟩
    ·have hii3:i3<x0.unions.length:=by have:=of_decide_eq_true hc5;omega
     replace hR:=loopN_step hR hii3
     refine rg ⟨by (intros;omega),by (have h8:=fam_n hf;have h7:=fam_u hf hii3;have h6:=h7.man;have h5:=h7.woman;omega),by (have h8:=fam_n hf;have h7:=fam_u hf hii3;have h6:=h7.man;have h5:=h7.woman;omega),trivial⟩ ?_
     refine rg ⟨trivial,by omega,trivial⟩ ?_
     refine rg ⟨by ( intros;simp only [inR];omega),trivial⟩ ?_
     exact hK3 (v3++[(Union.mk (v1.getD (((x0.unions.getD i3 default).man).toNat) default) (v1.getD (((x0.unions.getD i3 default).woman).toNat) default) ((x0.unions.getD i3 default).from0) ((x0.unions.getD i3 default).to))]) hii3 (by (simp only [List.length_append,List.length_singleton];omega)) hR
    ·obtain rfl:i3=x0.unions.length:=by have:=of_decide_eq_false hc5;omega
     replace hR:=loopN_end hR (Nat.lt_irrefl _)
     refine rg trivial ?_
     exact congrArg C120 hR
 exact Fn.go 92 Try.func120 (by kernel_rfl) (by kernel_rfl) (by simp [C120,Frs,FrsL,FrsB,rowOf,cInt,cBool,cStr,cSl,FrsL_app,cPerson,cUnion,cFamily,cEvent,cl01Cur]) (A120 x0 x1) (by kernel_rfl) (aux _ rfl)
def k120 (x0:Family) (x1:List Int):Cl:=(hres (C120 (ordered x0 x1)),k6 (ok_impl_ordered x0 x1))
theorem lt_unique : ∀ {l m : List Int}, l.Pairwise (fun a b => a < b) → m.Pairwise (fun a b => a < b) → l.Perm m → l = m
  | [],m,_,_,hp=>(List.Perm.nil_eq hp)
  | a :: l,[],_,_,hp=>absurd hp.length_eq (by simp)
  | a :: l,b :: m,hl,hm,hp=>by
    obtain ⟨hl1,hl2⟩:=List.pairwise_cons.1 hl
    obtain ⟨hm1,hm2⟩:=List.pairwise_cons.1 hm
    have h1:a∈b :: m:=hp.mem_iff.1 List.mem_cons_self
    have h2:b∈a :: l:=hp.mem_iff.2 List.mem_cons_self
    have hab:a=b:=by
      rcases List.mem_cons.1 h1 with e | e
      · exact e
      · rcases List.mem_cons.1 h2 with e2 | e2
        · exact e2.symm
        · have:=hm1 a e;have:=hl1 b e2;omega
    subst hab
    rw [lt_unique hl2 hm2 (List.Perm.cons_inv hp)]
theorem upto_lt (n:Nat):(upto n).Pairwise (fun a b=>a<b):=by
 unfold upto
 rw [List.pairwise_map]
 exact List.pairwise_lt_range.imp fun h=>by omega
theorem upto_getD {n k:Nat} (hk:k<n):(upto n).getD k default=((k:Nat):Int):=by
 unfold upto
 rw [List.getD_eq_getElem?_getD,List.getElem?_map,List.getElem?_range hk];rfl
theorem upto_map {α:Type} [Inhabited α] (l:List α):(upto l.length).map (fun k=>l.getD k.toNat default)=l:=by
 refine ext_g (by rw [List.length_map,upto_len]) fun k hk=>?_
 rw [List.length_map,upto_len] at hk
 rw [getD_map (fun k:Int=>l.getD k.toNat default) (by rw [upto_len];exact hk),upto_getD hk,Int.toNat_natCast]
def byKey {α:Type} (f:α→Int) (u v:α):Bool:=decide (f u<f v)
theorem byKey_swo {α:Type} (f:α→Int):SWO (byKey f) :=
 ⟨fun x=>decide_eq_false (by omega),fun x y h=>decide_eq_false (by have:=of_decide_eq_true h;omega),fun x y z h1 h2=>decide_eq_false (by have:=of_decide_eq_false h1;have:=of_decide_eq_false h2;omega)⟩
theorem order_st {α:Type} [Inhabited α] (f:α→Int) (l:List α):SrtL (byKey f) ((l11Order (l.map f)).map fun k=>l.getD k.toNat default)∧StEq (byKey f) l ((l11Order (l.map f)).map fun k=>l.getD k.toNat default):=by
 have ho:=order_ok (l.map f)
 have hp:=order_map f l
 have hk:∀ a:Int,a∈l11Order (l.map f)→(l.map f).getD a.toNat default=f (l.getD a.toNat default):=fun a ha=>getD_map f (by have:=mem_upto.1 (hp.mem_iff.1 ha);omega)
 refine ⟨?_,fun z=>?_⟩
 ·unfold SrtL
  rw [List.pairwise_map]
  refine ho.pw.imp_of_mem fun {a b} ha hb h=>?_
  unfold kLt at h
  rw [hk a ha,hk b hb] at h
  exact decide_eq_false (by omega)
 ·have e:l.filter (eqc (byKey f) z)=((upto l.length).map fun k=>l.getD k.toNat default).filter (eqc (byKey f) z):=by rw [upto_map]
  rw [e,List.filter_map,List.filter_map]
  congr 1
  refine lt_unique ?_ ((upto_lt _).filter _) (hp.filter _)
  refine List.Pairwise.imp_of_mem (R:=kLt (l.map f)) (fun {a b} ha hb h=>?_) (ho.pw.filter _)
  obtain ⟨ha1,ha2⟩:=List.mem_filter.1 ha
  obtain ⟨hb1,hb2⟩:=List.mem_filter.1 hb
  unfold kLt at h
  rw [hk a ha1,hk b hb1] at h
  simp only [Function.comp,eqc,byKey,Bool.and_eq_true,Bool.not_eq_true',decide_eq_false_iff_not] at ha2 hb2
  omega
theorem stable_key {α:Type} [Inhabited α] (f:α→Int) {l m:List α} (h1:SrtL (byKey f) m) (h2:StEq (byKey f) l m):m=(l11Order (l.map f)).map fun k=>l.getD k.toNat default:=by
 obtain ⟨g1,g2⟩:=order_st f l
 exact st_unique (byKey_swo f) h1 g1 fun x=>(g2 x).trans (h2 x).symm
theorem gStb_key {α:Type} [Inhabited α] (f:α→Int) {l:List α} (h:l.length≤255):gStb (byKey f) l l.length=(l11Order (l.map f)).map fun k=>l.getD k.toNat default:=by
 obtain ⟨g1,g2⟩:=gStb_fin (byKey_swo f) h
 exact stable_key f g1 g2
theorem order_short {α:Type} [Inhabited α] (f:α→Int) {l:List α} (h:l.length≤1):l=(l11Order (l.map f)).map fun k=>l.getD k.toNat default:=by
 refine stable_key f ?_ (.refl _ l)
 match l,h with
 | [],_=>exact .nil
 | [a],_=>exact List.pairwise_singleton _ _
 | _ :: _ :: _,h=>simp at h
theorem identL_val (n:Nat):identL ((n:Nat):Int)=upto n:=by
 unfold identL
 rw [Int.toNat_natCast]
 refine loopN_to (fun i (v:List Int)=>v=upto i) (fun v=>v=upto n) (by simp [upto]) (fun i v next hi hv hn=>hn _ ?_) (fun v hv=>hv)
 rw [hv,upto_succ]
theorem ordered_val {x:Family} (hx:specIsFamily x=true) {o:List Int} (ho:o.Perm (upto x.people.length)):ordered x o=reFamily x o:=by
 have h:=permOk ho
 have hlen:=h.len
 have hnd:=List.nodup_iff_pairwise_ne.1 (ho.nodup_iff.2 (upto_nodup _))
 unfold ordered
 refine loopN_to (fun i (v:List Int)=>v.length=x.people.length∧∀ k:Nat,k<i→v.getD (o.getD k default).toNat default=((k:Nat):Int)) (fun r=>r=reFamily x o) ⟨by rw [List.length_replicate,hlen],fun k hk=>absurd hk (Nat.not_lt_zero _)⟩ (fun i v next hi hv hn=>hn _ ⟨by rw [List.length_set];exact hv.1,fun k hk=>?_⟩) (fun v hv=>?_)
 ·have hri:=h.rng i hi
  rw [getD_set]
  by_cases c:k=i
  ·subst c;rw [if_pos ⟨rfl,by rw [hv.1];omega⟩]
  ·have hrk:=h.rng k (by omega)
   rw [if_neg (fun g=>getD_pw hnd i hi k (by omega) (by omega))]
   exact hv.2 k (by omega)
 ·have hpos:∀ q:Int,0≤q→q<x.people.length→v.getD q.toNat default=(l1Inverse o ((x.people.length:Nat):Int)).1.getD q.toNat default:=fun q h0 h1=>by
   obtain ⟨g1,g2⟩:=h.pos q h0 h1
   have:=hv.2 ((l1Inverse o ((x.people.length:Nat):Int)).1.getD q.toNat default).toNat (by omega)
   rw [g2] at this
   omega
  refine loopN_to (fun i (w:List Person)=>w=(o.take i).map fun i=>rePerson (l1Inverse o ((x.people.length:Nat):Int)).1 (x.people.getD i.toNat default)) (fun r=>r=reFamily x o) rfl (fun i w next hi hw hn=>?_) (fun w hw=>?_)
  ·have hri:=h.rng i hi
   have p:=fam_p hx (k:=(o.getD i default).toNat) (by omega)
   have fa:=p.fa
   have mo:=p.mo
   rw [jn_cond]
   have key:∀ q:Person,q=rePerson (l1Inverse o ((x.people.length:Nat):Int)).1 (x.people.getD (o.getD i default).toNat default)→w++[q]=(o.take (i+1)).map fun i=>rePerson (l1Inverse o ((x.people.length:Nat):Int)).1 (x.people.getD i.toNat default):=by
    intro q hq
    rw [take_snoc o default hi,List.map_append,← hw,hq];rfl
   have ef:(bif decide (0≤(x.people.getD (o.getD i default).toNat default).father) then v.getD (x.people.getD (o.getD i default).toNat default).father.toNat default else (x.people.getD (o.getD i default).toNat default).father)=(rePerson (l1Inverse o ((x.people.length:Nat):Int)).1 (x.people.getD (o.getD i default).toNat default)).father:=by
    unfold rePerson
    dsimp only
    cases c:decide (0≤(x.people.getD (o.getD i default).toNat default).father)
    ·rfl
    ·have c:=of_decide_eq_true c
     simp only [cond_true]
     exact hpos _ c (by omega)
   rw [ef]
   cases c:decide (0≤(x.people.getD (o.getD i default).toNat default).mother)<;>simp only [cond_true,cond_false]
   ·exact hn _ (key _ (by unfold rePerson;rw [c];rfl))
   ·refine hn _ (key _ ?_)
    rw [hpos _ (of_decide_eq_true c) (by have:=of_decide_eq_true c;omega)]
    unfold rePerson;rw [c];rfl
  ·refine loopN_to (fun i (u:List Union)=>u=(x.unions.take i).map (reUnion (l1Inverse o ((x.people.length:Nat):Int)).1)) (fun r=>r=reFamily x o) rfl (fun i u next hi hu hn=>hn _ ?_) (fun u hu=>?_)
   ·have f:=fam_u hx hi
    have hm:=f.man
    have hwm:=f.woman
    rw [take_snoc x.unions default hi,List.map_append,← hu,hpos _ hm.1 hm.2,hpos _ hwm.1 hwm.2];rfl
   ·rw [List.take_length] at hw hu
    rw [hw,hu];rfl
theorem id_len (n:Nat):(identL ((n:Nat):Int)).length=n:=by rw [identL_val,upto_len]
theorem born_map (x:Family):(upto x.people.length).map (fun u=>(x.people.getD u.toNat default).born)=x.people.map fun p=>p.born:=by
 have e:=congrArg (List.map fun p:Person=>p.born) (upto_map x.people)
 rw [List.map_map] at e
 exact e
theorem birth_key (x:Family):(l11Order ((upto x.people.length).map fun u=>(x.people.getD u.toNat default).born)).map (fun k=>(upto x.people.length).getD k.toNat default)=byBirth x:=by
 rw [born_map]
 have h:=byBirth_ok x
 refine ext_g (by rw [List.length_map];rfl) fun k hk=>?_
 rw [List.length_map] at hk
 rw [getD_map (fun k:Int=>(upto x.people.length).getD k.toNat default) hk]
 have hr:=h.rng k hk
 have e:(l11Order (x.people.map fun p=>p.born)).getD k default=(byBirth x).getD k default:=rfl
 rw [e,upto_getD (by omega)]
 omega
theorem ps_val {x:Family} (hx:specIsFamily x=true):sliceP (SrtP.mk x (identL ((x.people.length:Nat):Int))) ()=byBirth x:=by
 rw [sliceP_eq,identL_val]
 have h:=gStb_key (fun u:Int=>(x.people.getD u.toNat default).born) (l:=upto x.people.length) (by rw [upto_len];have:=fam_n hx;omega)
 rw [birth_key] at h
 exact h
theorem qs_val {x:Family} (h:decide (2≤(identL ((x.people.length:Nat):Int)).length)=false):sliceQ (SrtQ.mk x (identL ((x.people.length:Nat):Int))) ()=byBirth x:=by
 have hl:=of_decide_eq_false h
 rw [id_len] at hl
 rw [sliceQ_eq,identL_val]
 have h:=order_short (fun u:Int=>(x.people.getD u.toNat default).born) (l:=upto x.people.length) (by rw [upto_len];omega)
 rw [birth_key] at h
 exact h
theorem id_lk (x:Family):LkP (SrtP.mk x (identL ((x.people.length:Nat):Int))) (SrtP.mk x (identL ((x.people.length:Nat):Int))).l:=by
 refine ⟨fun c hc=>?_,rfl⟩
 rw [identL_val] at hc
 exact mem_upto.1 hc
theorem ord_un {x:Family} (hx:specIsFamily x=true):(ordered x (byBirth x)).unions.length≤255:=by
 have e:ordered x (byBirth x)=reFamily x (byBirth x):=ordered_val hx (order_map (fun p:Person=>p.born) x.people)
 rw [e]
 have:=fam_n hx
 simp only [reFamily,List.length_map];omega
theorem us_val {R:Family} (h:R.unions.length≤255):sliceU (SrtU.mk R.people R.unions) ()=(byFrom R).map fun k=>R.unions.getD k.toNat default:=by
 rw [sliceU_eq]
 exact gStb_key (fun u:Union=>u.from0) h
theorem vs_val {R:Family} (h:decide (2≤R.unions.length)=false):sliceV (SrtV.mk R.people R.unions) ()=(byFrom R).map fun k=>R.unions.getD k.toNat default:=by
 rw [sliceV_eq]
 exact order_short (fun u:Union=>u.from0) (l:=R.unions) (by have:=of_decide_eq_false h;omega)
def C65 (R:Family):LV×List (Nat×BC):=(.agg [.own 0,.own 1],[(0,.arr 6 R.people.length (rowOf (cPerson true) R.people)),(1,.arr 4 R.unions.length (rowOf (cUnion true) R.unions))])
def chrono (x0:Family):Family:=bif (decide (2≤(identL ((x0.people.length:Nat):Int)).length)) then (bif (decide (2≤((ordered x0 (sliceP (SrtP.mk x0 (identL ((x0.people.length:Nat):Int))) ())).unions).length)) then (Family.mk ((ordered x0 (sliceP (SrtP.mk x0 (identL ((x0.people.length:Nat):Int))) ())).people) (sliceU (SrtU.mk ((ordered x0 (sliceP (SrtP.mk x0 (identL ((x0.people.length:Nat):Int))) ())).people) ((ordered x0 (sliceP (SrtP.mk x0 (identL ((x0.people.length:Nat):Int))) ())).unions)) ())) else (Family.mk ((ordered x0 (sliceP (SrtP.mk x0 (identL ((x0.people.length:Nat):Int))) ())).people) (sliceV (SrtV.mk ((ordered x0 (sliceP (SrtP.mk x0 (identL ((x0.people.length:Nat):Int))) ())).people) ((ordered x0 (sliceP (SrtP.mk x0 (identL ((x0.people.length:Nat):Int))) ())).unions)) ()))) else (bif (decide (2≤((ordered x0 (sliceQ (SrtQ.mk x0 (identL ((x0.people.length:Nat):Int))) ())).unions).length)) then (Family.mk ((ordered x0 (sliceQ (SrtQ.mk x0 (identL ((x0.people.length:Nat):Int))) ())).people) (sliceU (SrtU.mk ((ordered x0 (sliceQ (SrtQ.mk x0 (identL ((x0.people.length:Nat):Int))) ())).people) ((ordered x0 (sliceQ (SrtQ.mk x0 (identL ((x0.people.length:Nat):Int))) ())).unions)) ())) else (Family.mk ((ordered x0 (sliceQ (SrtQ.mk x0 (identL ((x0.people.length:Nat):Int))) ())).people) (sliceV (SrtV.mk ((ordered x0 (sliceQ (SrtQ.mk x0 (identL ((x0.people.length:Nat):Int))) ())).people) ((ordered x0 (sliceQ (SrtQ.mk x0 (identL ((x0.people.length:Nat):Int))) ())).unions)) ())))
def A65 (x0:Family):Ann:=.split (decide (2≤(identL ((x0.people.length:Nat):Int)).length)) (.split (decide (2≤((ordered x0 (sliceP (SrtP.mk x0 (identL ((x0.people.length:Nat):Int))) ())).unions).length)) (.reg 6 [] [(1003,k118 ((x0.people.length:Nat):Int)),(2003,k112P 12 [1008,1,3] (SrtP.mk x0 (identL ((x0.people.length:Nat):Int))) ()),(3002,k120 x0 (sliceP (SrtP.mk x0 (identL ((x0.people.length:Nat):Int))) ())),(4004,k112U 20 [2015,4,1015] (SrtU.mk ((ordered x0 (sliceP (SrtP.mk x0 (identL ((x0.people.length:Nat):Int))) ())).people) ((ordered x0 (sliceP (SrtP.mk x0 (identL ((x0.people.length:Nat):Int))) ())).unions)) ())] [2] [2,1015,2015] [] [] [] [0,4,8,12] (rt [(0,some 1015),(1,some 2015)] (C65 (Family.mk ((ordered x0 (sliceP (SrtP.mk x0 (identL ((x0.people.length:Nat):Int))) ())).people) (sliceU (SrtU.mk ((ordered x0 (sliceP (SrtP.mk x0 (identL ((x0.people.length:Nat):Int))) ())).people) ((ordered x0 (sliceP (SrtP.mk x0 (identL ((x0.people.length:Nat):Int))) ())).unions)) ()))))) (.reg 6 [] [(1003,k118 ((x0.people.length:Nat):Int)),(2003,k112P 12 [1008,1,3] (SrtP.mk x0 (identL ((x0.people.length:Nat):Int))) ()),(3002,k120 x0 (sliceP (SrtP.mk x0 (identL ((x0.people.length:Nat):Int))) ())),(4004,k112V 20 [2015,4,1015] (SrtV.mk ((ordered x0 (sliceP (SrtP.mk x0 (identL ((x0.people.length:Nat):Int))) ())).people) ((ordered x0 (sliceP (SrtP.mk x0 (identL ((x0.people.length:Nat):Int))) ())).unions)) ())] [2] [2,1015,2015] [] [] [] [0,4,8,12] (rt [(0,some 1015),(1,some 2015)] (C65 (Family.mk ((ordered x0 (sliceP (SrtP.mk x0 (identL ((x0.people.length:Nat):Int))) ())).people) (sliceV (SrtV.mk ((ordered x0 (sliceP (SrtP.mk x0 (identL ((x0.people.length:Nat):Int))) ())).people) ((ordered x0 (sliceP (SrtP.mk x0 (identL ((x0.people.length:Nat):Int))) ())).unions)) ())))))) (.split (decide (2≤((ordered x0 (sliceQ (SrtQ.mk x0 (identL ((x0.people.length:Nat):Int))) ())).unions).length)) (.reg 6 [] [(1003,k118 ((x0.people.length:Nat):Int)),(2003,k112Q 12 [1008,1,3] (SrtQ.mk x0 (identL ((x0.people.length:Nat):Int))) ()),(3002,k120 x0 (sliceQ (SrtQ.mk x0 (identL ((x0.people.length:Nat):Int))) ())),(4004,k112U 20 [2015,4,1015] (SrtU.mk ((ordered x0 (sliceQ (SrtQ.mk x0 (identL ((x0.people.length:Nat):Int))) ())).people) ((ordered x0 (sliceQ (SrtQ.mk x0 (identL ((x0.people.length:Nat):Int))) ())).unions)) ())] [2] [2,1015,2015] [] [] [] [0,4,8,12] (rt [(0,some 1015),(1,some 2015)] (C65 (Family.mk ((ordered x0 (sliceQ (SrtQ.mk x0 (identL ((x0.people.length:Nat):Int))) ())).people) (sliceU (SrtU.mk ((ordered x0 (sliceQ (SrtQ.mk x0 (identL ((x0.people.length:Nat):Int))) ())).people) ((ordered x0 (sliceQ (SrtQ.mk x0 (identL ((x0.people.length:Nat):Int))) ())).unions)) ()))))) (.reg 6 [] [(1003,k118 ((x0.people.length:Nat):Int)),(2003,k112Q 12 [1008,1,3] (SrtQ.mk x0 (identL ((x0.people.length:Nat):Int))) ()),(3002,k120 x0 (sliceQ (SrtQ.mk x0 (identL ((x0.people.length:Nat):Int))) ())),(4004,k112V 20 [2015,4,1015] (SrtV.mk ((ordered x0 (sliceQ (SrtQ.mk x0 (identL ((x0.people.length:Nat):Int))) ())).people) ((ordered x0 (sliceQ (SrtQ.mk x0 (identL ((x0.people.length:Nat):Int))) ())).unions)) ())] [2] [2,1015,2015] [] [] [] [0,4,8,12] (rt [(0,some 1015),(1,some 2015)] (C65 (Family.mk ((ordered x0 (sliceQ (SrtQ.mk x0 (identL ((x0.people.length:Nat):Int))) ())).people) (sliceV (SrtV.mk ((ordered x0 (sliceQ (SrtQ.mk x0 (identL ((x0.people.length:Nat):Int))) ())).people) ((ordered x0 (sliceQ (SrtQ.mk x0 (identL ((x0.people.length:Nat):Int))) ())).unions)) ()))))))
theorem ok_impl_chronological (x0:Family) (hx:x0.people.length≤1048576) (hu:x0.unions.length≤1048576) (hn:∀ p∈x0.people,p.name.length≤1048576) (hf:specIsFamily x0=true):FnT Try.prog 65 [.agg (cFamily false x0)] (C65 (chrono x0)):=by
 have aux:∀ R,chrono x0=R→slim (C65 R) (A65 x0) []:=by
  intro R hR
  revert hR;refine cd (fun hs1 hR=>?_) fun hs1 hR=>?_
  ·
    revert hR;refine cd (fun hs2 hR=>?_) fun hs2 hR=>?_
    ·
      refine rg ⟨by (have h9:=fam_n hf;omega),⟨by ((dsimp only;rw [id_len];have h9:=fam_n hf;omega)),by (with_reducible exact id_lk x0),by (with_reducible exact of_decide_eq_true (by assumption))⟩,⟨by with_reducible assumption,by with_reducible assumption,by with_reducible assumption,by with_reducible assumption,by (rw [ps_val hf];exact (byBirth_ok x0).len),by (rw [ps_val hf];exact (byBirth_ok x0).rng)⟩,⟨by ((dsimp only;rw [ps_val hf];exact ord_un hf)),by (exact ⟨trivial,rfl⟩),by (with_reducible exact of_decide_eq_true (by assumption))⟩,trivial⟩ ?_
      exact congrArg C65 hR
    ·
      refine rg ⟨by (have h9:=fam_n hf;omega),⟨by ((dsimp only;rw [id_len];have h9:=fam_n hf;omega)),by (with_reducible exact id_lk x0),by (with_reducible exact of_decide_eq_true (by assumption))⟩,⟨by with_reducible assumption,by with_reducible assumption,by with_reducible assumption,by with_reducible assumption,by (rw [ps_val hf];exact (byBirth_ok x0).len),by (rw [ps_val hf];exact (byBirth_ok x0).rng)⟩,by ((dsimp only;exact Nat.le_of_lt_succ (Nat.lt_of_not_le (of_decide_eq_false (by assumption))))),trivial⟩ ?_
      exact congrArg C65 hR
  ·
    revert hR;refine cd (fun hs3 hR=>?_) fun hs3 hR=>?_
    ·
      refine rg ⟨by (have h9:=fam_n hf;omega),by ((dsimp only;exact Nat.le_of_lt_succ (Nat.lt_of_not_le (of_decide_eq_false (by assumption))))),⟨by with_reducible assumption,by with_reducible assumption,by with_reducible assumption,by with_reducible assumption,by (rw [qs_val (by assumption)];exact (byBirth_ok x0).len),by (rw [qs_val (by assumption)];exact (byBirth_ok x0).rng)⟩,⟨by ((dsimp only;rw [qs_val (by assumption)];exact ord_un hf)),by (exact ⟨trivial,rfl⟩),by (with_reducible exact of_decide_eq_true (by assumption))⟩,trivial⟩ ?_
      exact congrArg C65 hR
    ·
      refine rg ⟨by (have h9:=fam_n hf;omega),by ((dsimp only;exact Nat.le_of_lt_succ (Nat.lt_of_not_le (of_decide_eq_false (by assumption))))),⟨by with_reducible assumption,by with_reducible assumption,by with_reducible assumption,by with_reducible assumption,by (rw [qs_val (by assumption)];exact (byBirth_ok x0).len),by (rw [qs_val (by assumption)];exact (byBirth_ok x0).rng)⟩,by ((dsimp only;exact Nat.le_of_lt_succ (Nat.lt_of_not_le (of_decide_eq_false (by assumption))))),trivial⟩ ?_
      exact congrArg C65 hR
 exact Fn.go 22 Try.func65 (by kernel_rfl) (by kernel_rfl) (by simp [C65,Frs,FrsL,FrsB,rowOf,cInt,cBool,cStr,cSl,FrsL_app,cPerson,cUnion,cFamily,cEvent,cl01Cur]) (A65 x0) (by kernel_rfl) (aux _ rfl)
def k65 (x0:Family):Cl:=(hres (C65 (chrono x0)),k4 (ok_impl_chronological x0))
theorem chrono_eq {x:Family} (hx:specIsFamily x=true):chrono x=l11Sorted x:=by
 rw [sorted_val hx]
 have ho:=ordered_val hx (order_map (fun p:Person=>p.born) x.people)
 have ho2:ordered x (byBirth x)=reFamily x (byBirth x):=ho
 have hu:(reFamily x (byBirth x)).unions.length≤255:=by rw [← ho2];exact ord_un hx
 unfold chrono
 cases c:decide (2≤(identL ((x.people.length:Nat):Int)).length)<;>simp only [cond_true,cond_false]
 ·rw [qs_val c,ho2]
  cases d:decide (2≤(reFamily x (byBirth x)).unions.length)<;>simp only [cond_true,cond_false]
  ·rw [vs_val d]
  ·rw [us_val hu]
 ·rw [ps_val hx,ho2]
  cases d:decide (2≤(reFamily x (byBirth x)).unions.length)<;>simp only [cond_true,cond_false]
  ·rw [vs_val d]
  ·rw [us_val hu]
structure EvI (n:Nat) (l:List Event):Prop where
 len:l.length≤n
 rng:∀ e∈l,(0≤e.year∧e.year≤9999)∧1≤e.kind∧e.kind≤4
theorem EvI.nil:EvI 0 []:=⟨Nat.le_refl _,fun e he=>absurd he List.not_mem_nil⟩
theorem EvI.mono {n m:Nat} {l:List Event} (h:EvI n l) (hm:n≤m):EvI m l:=⟨Nat.le_trans h.len hm,h.rng⟩
theorem EvI.snoc {n:Nat} {l:List Event} (h:EvI n l) {k y s a b:Int} {nm:List UInt8} (hy:0≤y∧y≤9999) (hk:1≤k∧k≤4):EvI (n+1) (l++[Event.mk k y nm s a b]):=by
 refine ⟨by rw [List.length_append,List.length_singleton];have:=h.len;omega,fun e he=>?_⟩
 rcases List.mem_append.1 he with he | he
 ·exact h.rng e he
 ·rw [List.mem_singleton.1 he];exact ⟨hy,hk⟩
theorem EvI.at {n:Nat} {l:List Event} (h:EvI n l) {i:Nat} (hi:i<l.length):(0≤(l.getD i default).year∧(l.getD i default).year≤9999)∧1≤(l.getD i default).kind∧(l.getD i default).kind≤4:=h.rng _ (getD_mem hi)
theorem chrono_f {x:Family} (hx:specIsFamily x=true):specIsFamily (chrono x)=true:=by rw [chrono_eq hx];exact (sorted_ok hx).1
end Go.Proofs.Ytepefimocflfkaa
