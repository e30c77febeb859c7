import Derived.Test.YtkkijpibajigfaaProg
import Derived.Test.YtkkijpibajigfaaLiteW
import Derived.KernelRfl
set_option maxHeartbeats 4000000
set_option linter.unusedSimpArgs false
set_option linter.unusedVariables false
namespace Go.Proofs.Ytkkijpibajigfaa
open Go Go.Lite Go.Proofs
structure Person where
 name:List UInt8
 sex:Int
 father:Int
 mother:Int
 born:Int
 died:Int
 deriving Inhabited
def cPerson (fr:Bool) (x:Person):List LV:=cStr x.name++cInt .i64 x.sex++cInt .i64 x.father++cInt .i64 x.mother++cInt .i64 x.born++cInt .i64 x.died

structure Union where
 man:Int
 woman:Int
 from0:Int
 to:Int
 deriving Inhabited
def cUnion (fr:Bool) (x:Union):List LV:=cInt .i64 x.man++cInt .i64 x.woman++cInt .i64 x.from0++cInt .i64 x.to

structure Family where
 people:List Person
 unions:List Union
 deriving Inhabited
def cFamily (fr:Bool) (x:Family):List LV:=cSl fr 6 (cPerson fr) x.people++cSl fr 4 (cUnion fr) x.unions

def C81 (R:Int):LV×List (Nat×BC):=(.int .i64 R,[])
def szPerson (x0:Person) (x1:Int):Int:=bif (decide ((x1 - ((x0.name.length:Nat):Int))<0)) then (-1) else (x1 - ((x0.name.length:Nat):Int))
def A81 (x0:Person) (x1:Int):Ann:=r1 2 [1,4] [] [pf (inR .i64 (x1 - ((x0.name.length:Nat):Int)))] [0] (r0 1 [1,4,11] [] (cn (decide ((x1 - ((x0.name.length:Nat):Int))<0)) (r0 1 [1,4] [] (rt [] (C81 (-1)))) (r0 1 [4] [] (rt [] (C81 (x1 - ((x0.name.length:Nat):Int)))))))
theorem szPerson_rng (x:Person) (w:Int):szPerson x w≤max w (-1)∧-1≤szPerson x w:=by
 unfold szPerson
 cases h:decide (w - (x.name.length:Int)<0) <;> simp_all <;> omega
theorem ok_laws_szPerson (x0:Person) (x1:Int) (hx:x0.name.length≤1048576) (hw:-1≤x1∧x1≤1048576):FnT Try.prog 81 [.agg (cPerson false x0),.int .i64 x1] (C81 (szPerson x0 x1)):=by
 have aux:∀ R,szPerson x0 x1=R→slim (C81 R) (A81 x0 x1) []:=by
  intro R hR
  refine rg ⟨by ( intros;simp only [inR];omega),trivial⟩ ?_
  refine rg trivial ?_
  revert hR;refine cd (fun hc1 hR=>?_) fun hc1 hR=>?_
  ·
    refine rg trivial ?_
    exact congrArg C81 hR
  ·
    refine rg trivial ?_
    exact congrArg C81 hR
 exact Fn.go 13 Try.func81 (by kernel_rfl) (by kernel_rfl) (by simp [C81,Frs,FrsL]) (A81 x0 x1) (by kernel_rfl) (aux _ rfl)
def k81 (x0:Person) (x1:Int):Cl:=(hres (C81 (szPerson x0 x1)),k2 (ok_laws_szPerson x0 x1))
def C40 (R:Int):LV×List (Nat×BC):=(.int .i64 R,[])
def szPersonS (x0:List Person) (x1:Int):Int:=bif (decide ((x1 - ((x0.length:Nat):Int))<0)) then (-1) else (loopN (fun i1 (v1:Int) next=>bif (decide ((szPerson (x0.getD i1 default) v1)<0)) then (-1) else (next (szPerson (x0.getD i1 default) v1))) (fun (v1:Int)=>v1) x0.length 0 (x1 - ((x0.length:Nat):Int)))
def D40b1 (x0:List Person) (x1:Int) (i1:Nat) (v1:Int):Dl:=⟨[(5,.int .i64 ((i1:Nat):Int)),(1,.int .i64 v1)],[]⟩
def A40b1 (x0:List Person) (x1:Int) (i1:Nat) (v1:Int):Ann:=r0 1 [0,1,4,5,15] [] (cn (decide (((i1:Nat):Int)<((x0.length:Nat):Int))) (.reg 2 [] [(5,k81 (x0.getD i1 default) v1)] [0,1,4,5,25] [] [] [pf (0≤(((i1:Nat):Int):Int)∧(((i1:Nat):Int):Int)<((x0.length:Nat):Int))] [] [0,4] (cn (decide ((szPerson (x0.getD i1 default) v1)<0)) (r0 1 [0,1,4,5] [] (rt [] (C40 (-1)))) (r1 1 [0,1,4,5] [] [pf (inR .i64 (((i1:Nat):Int)+1))] [0] (.next 0 [] (D40b1 x0 x1 (i1+1) (szPerson (x0.getD i1 default) v1)))))) (r0 1 [4] [] (rt [] (C40 v1))))
def A40 (x0:List Person) (x1:Int):Ann:=r1 2 [0,1,4] [] [pf (inR .i64 (x1 - ((x0.length:Nat):Int)))] [0] (r0 1 [0,1,4,11] [] (cn (decide ((x1 - ((x0.length:Nat):Int))<0)) (r0 1 [0,1,4] [] (rt [] (C40 (-1)))) (r0 1 [0,1,4,5] [] (lp (D40b1 x0 x1) [] [] [] (D40b1 x0 x1 0 (x1 - ((x0.length:Nat):Int))) (A40b1 x0 x1)))))
theorem szPersonS_rng (x:List Person) (w:Int):szPersonS x w≤max w (-1)∧-1≤szPersonS x w:=by
 unfold szPersonS
 cases h:decide (w - (x.length:Int)<0)
 ·refine loopN_inv (fun _ v=>v≤max w (-1)∧-1≤v) (fun r=>r≤max w (-1)∧-1≤r) (fun i v next hv hn=>?_) (fun _ v hv=>hv) _ _ _ ?_
  ·have:=szPerson_rng (x.getD i default) v
   cases h2:decide (szPerson (x.getD i default) v<0)
   ·exact hn _ (by omega)
   ·simp only [cond_true];omega
  ·have:=of_decide_eq_false h
   constructor <;> omega
 ·simp only [cond_true];omega
theorem ok_laws_szPersonS (x0:List Person) (x1:Int) (hx:x0.length≤1048576) (hy:∀ p ∈ x0,p.name.length≤1048576) (hw:-1≤x1∧x1≤1048576):FnT Try.prog 40 [.ro false 6 x0.length (rowOf (cPerson false) x0),.int .i64 x1] (C40 (szPersonS x0 x1)):=by
 have aux:∀ R,szPersonS x0 x1=R→slim (C40 R) (A40 x0 x1) []:=by
  intro R hR
  refine rg ⟨by ( intros;simp only [inR];omega),trivial⟩ ?_
  refine rg trivial ?_
  revert hR;refine cd (fun hc1 hR=>?_) fun hc1 hR=>?_
  ·
    refine rg trivial ?_
    exact congrArg C40 hR
  ·
    refine rg trivial ?_
    revert hR;refine lN (fun i v=>-1≤v∧v≤1048576) (by ((try clear hR);intros;(try simp only [decide_eq_true_eq,decide_eq_false_iff_not,Bool.or_eq_true,Bool.and_eq_true,or_f_iff,not_f_iff,not_t_iff,Bool.not_eq_true',inR] at *);(repeat' apply And.intro) <;> (intros;omega))) rfl fun i1 v1 F1 hn1 hI1 hR hK1=>?_
    refine rg trivial ?_
    refine ⟨fun hc2=>?_,fun hc2=>?_⟩
    · have hii1:i1<x0.length:=by have:=of_decide_eq_true hc2;omega
      replace hR:=loopN_step hR hii1
      refine rg ⟨by (intros;omega),⟨by ((try clear hR hK1);intros;(try simp only [decide_eq_true_eq,decide_eq_false_iff_not,Bool.or_eq_true,Bool.and_eq_true,or_f_iff,not_f_iff,not_t_iff,Bool.not_eq_true',inR] at *);(repeat' apply And.intro) <;> (simp_all [inR];done)),by trivial⟩,trivial⟩ ?_
      have hp1:=szPerson_rng (x0.getD i1 default) v1
      revert hR;refine cd (fun hc3 hR=>?_) fun hc3 hR=>?_
      ·
        refine rg trivial ?_
        exact congrArg C40 hR
      ·
        refine rg ⟨by ( intros;simp only [inR];omega),trivial⟩ ?_
        exact hK1 (szPerson (x0.getD i1 default) v1) hii1 (by (intros;omega)) hR
    · obtain rfl:i1=x0.length:=by have:=of_decide_eq_false hc2;omega
      replace hR:=loopN_end hR (Nat.lt_irrefl _)
      refine rg trivial ?_
      exact congrArg C40 hR
 exact Fn.go 27 Try.func40 (by kernel_rfl) (by kernel_rfl) (by simp [C40,Frs,FrsL]) (A40 x0 x1) (by kernel_rfl) (aux _ rfl)
def k40 (x0:List Person) (x1:Int):Cl:=(hres (C40 (szPersonS x0 x1)),k3 (ok_laws_szPersonS x0 x1))
def C41 (R:Int):LV×List (Nat×BC):=(.int .i64 R,[])
def szUnionS (x0:List Union) (x1:Int):Int:=bif (decide ((x1 - ((x0.length:Nat):Int))<0)) then (-1) else (x1 - ((x0.length:Nat):Int))
def A41 (x0:List Union) (x1:Int):Ann:=r1 2 [1,4] [] [pf (inR .i64 (x1 - ((x0.length:Nat):Int)))] [0] (r0 1 [1,4,10] [] (cn (decide ((x1 - ((x0.length:Nat):Int))<0)) (r0 1 [1,4] [] (rt [] (C41 (-1)))) (r0 1 [4] [] (rt [] (C41 (x1 - ((x0.length:Nat):Int)))))))
theorem ok_laws_szUnionS (x0:List Union) (x1:Int) (hx:x0.length≤1048576) (hw:-1≤x1∧x1≤1048576):FnT Try.prog 41 [.ro false 4 x0.length (rowOf (cUnion false) x0),.int .i64 x1] (C41 (szUnionS x0 x1)):=by
 have aux:∀ R,szUnionS x0 x1=R→slim (C41 R) (A41 x0 x1) []:=by
  intro R hR
  refine rg ⟨by ( intros;simp only [inR];omega),trivial⟩ ?_
  refine rg trivial ?_
  revert hR;refine cd (fun hc1 hR=>?_) fun hc1 hR=>?_
  ·
    refine rg trivial ?_
    exact congrArg C41 hR
  ·
    refine rg trivial ?_
    exact congrArg C41 hR
 exact Fn.go 12 Try.func41 (by kernel_rfl) (by kernel_rfl) (by simp [C41,Frs,FrsL]) (A41 x0 x1) (by kernel_rfl) (aux _ rfl)
def k41 (x0:List Union) (x1:Int):Cl:=(hres (C41 (szUnionS x0 x1)),k2 (ok_laws_szUnionS x0 x1))
def C9 (R:Int):LV×List (Nat×BC):=(.int .i64 R,[])
def szFamily (x0:Family) (x1:Int):Int:=bif (decide ((szPersonS x0.people x1)<0)) then (-1) else (bif (decide ((szUnionS x0.unions (szPersonS x0.people x1))<0)) then (-1) else (szUnionS x0.unions (szPersonS x0.people x1)))
def A9 (x0:Family) (x1:Int):Ann:=.reg 2 [] [(1003,k40 x0.people x1)] [1,2,4] [2] [] [] [] [0] (r0 1 [1,2,4,10] [2] (cn (decide ((szPersonS x0.people x1)<0)) (r0 1 [1,2,4] [2] (rt [] (C9 (-1)))) (.reg 1 [] [(3,k41 x0.unions (szPersonS x0.people x1))] [1,4] [] [] [] [] [0] (r0 1 [1,4,16] [] (cn (decide ((szUnionS x0.unions (szPersonS x0.people x1))<0)) (r0 1 [1,4] [] (rt [] (C9 (-1)))) (r0 1 [4] [] (rt [] (C9 (szUnionS x0.unions (szPersonS x0.people x1))))))))))
theorem ok_laws_szFamily (x0:Family) (x1:Int) (hx:x0.people.length≤1048576∧x0.unions.length≤1048576) (hy:∀ p ∈ x0.people,p.name.length≤1048576) (hw:-1≤x1∧x1≤1048576):FnT Try.prog 9 [.agg (cFamily false x0),.int .i64 x1] (C9 (szFamily x0 x1)):=by
 have aux:∀ R,szFamily x0 x1=R→slim (C9 R) (A9 x0 x1) []:=by
  intro R hR
  refine rg ⟨⟨by (intros;omega),by trivial,by trivial⟩,trivial⟩ ?_
  have hp1:=szPersonS_rng x0.people x1
  refine rg trivial ?_
  revert hR;refine cd (fun hc1 hR=>?_) fun hc1 hR=>?_
  ·
    refine rg trivial ?_
    exact congrArg C9 hR
  ·
    refine rg ⟨⟨by (intros;omega),by (intros;omega)⟩,trivial⟩ ?_
    refine rg trivial ?_
    revert hR;refine cd (fun hc2 hR=>?_) fun hc2 hR=>?_
    ·
      refine rg trivial ?_
      exact congrArg C9 hR
    ·
      refine rg trivial ?_
      exact congrArg C9 hR
 exact Fn.go 18 Try.func9 (by kernel_rfl) (by kernel_rfl) (by simp [C9,Frs,FrsL]) (A9 x0 x1) (by kernel_rfl) (aux _ rfl)
def k9 (x0:Family) (x1:Int):Cl:=(hres (C9 (szFamily x0 x1)),k3 (ok_laws_szFamily x0 x1))
def C87 (R:Person):LV×List (Nat×BC):=(.agg [.str R.name,.int .i64 R.sex,.int .i64 R.father,.int .i64 R.mother,.int .i64 R.born,.int .i64 R.died],[])
def laws_toPerson_m (x0:Person):Person:=x0
def A87 (x0:Person):Ann:=r0 9 [2] [2] (rt [] (C87 x0))
theorem ok_laws_toPerson (x0:Person):FnT Try.prog 87 [.agg (cPerson false x0)] (C87 x0):=by
 have aux:∀ R,laws_toPerson_m x0=R→slim (C87 R) (A87 x0) []:=by
  intro R hR
  refine rg trivial ?_
  exact congrArg C87 hR
 exact Fn.go 23 Try.func87 (by kernel_rfl) (by kernel_rfl) (by simp [C87,Frs,FrsL]) (A87 x0) (by kernel_rfl) (aux _ rfl)
def k87 (x0:Person):Cl:=(hres (C87 x0),k0 (ok_laws_toPerson x0))
def C47 (R:(List Person)):LV×List (Nat×BC):=(.own 0,[(0,.arr 6 R.length (rowOf (cPerson true) R))])
def laws_toPersonS_m (x0:List Person):(List Person):=loopN (fun i1 (v1:(List Person)) next=>next (v1.set i1 (x0.getD i1 default))) (fun (v1:(List Person))=>v1) x0.length 0 (List.replicate x0.length (default:Person))
def D47b1 (x0:List Person) (i1:Nat) (v1:(List Person)):Dl:=⟨[(4,.int .i64 ((i1:Nat):Int)),(3,.own 20003)],[(20003,.arr 6 x0.length (rowOf (cPerson true) v1))]⟩
def A47b1 (x0:List Person) (i1:Nat) (v1:(List Person)):Ann:=r0 1 [0,2,3,4,11] [20003] (cn (decide (((i1:Nat):Int)<((x0.length:Nat):Int))) (.reg 1 [] [(6,k87 (x0.getD i1 default)),(8,stC 20003 (cPerson true) x0.length v1 i1 (x0.getD i1 default))] [0,2,3,4] [20003] [] [pf (0≤(((i1:Nat):Int):Int)∧(((i1:Nat):Int):Int)<((x0.length:Nat):Int))] [] [0,4,0,8] (r1 1 [0,2,3,4] [20003] [pf (inR .i64 (((i1:Nat):Int)+1))] [0] (.next 0 [(20003,some 20003)] (D47b1 x0 (i1+1) (v1.set i1 (x0.getD i1 default)))))) (r0 1 [2] [20003] (.co false 20003 v1.length (rowOf (cPerson true) v1) [lnP (rowOf (cPerson true) v1) x0.length v1.length] [] 0 (rt [(0,some 20003)] (C47 v1)))))
def A47 (x0:List Person):Ann:=.reg 2 [] [(1002,msC 7 (cPerson true) 56 ((x0.length:Nat):Int) ((x0.length:Nat):Int) x0.length (default:Person) (rfl))] [0,2,3] [7] [] [] [] [0] (r0 1 [0,2,3,4] [7] (lp (D47b1 x0) [] [7] [(20003,some 7)] (D47b1 x0 0 (List.replicate x0.length (default:Person))) (A47b1 x0)))
theorem toPersonS_id (x:List Person):laws_toPersonS_m x=x:=loopN_copy x _ _ _ _ (by simp) (by simp) (fun k hk=>absurd hk (by omega))
theorem ok_laws_toPersonS (x0:List Person) (hx:x0.length≤1048576):FnT Try.prog 47 [.ro false 6 x0.length (rowOf (cPerson false) x0)] (C47 x0):=by
 have aux:∀ R,laws_toPersonS_m x0=R→slim (C47 R) (A47 x0) []:=by
  intro R hR
  refine rg ⟨by (intros;omega),trivial⟩ ?_
  refine rg trivial ?_
  revert hR;refine lN (fun i v=>v.length=x0.length) (by ((try clear hR);intros;(try simp only [decide_eq_true_eq,decide_eq_false_iff_not,Bool.or_eq_true,Bool.and_eq_true,or_f_iff,not_f_iff,not_t_iff,Bool.not_eq_true',inR] at *);(repeat' apply And.intro) <;> (simp_all [inR];done))) rfl fun i1 v1 F1 hn1 hI1 hR hK1=>?_
  refine rg trivial ?_
  refine ⟨fun hc1=>?_,fun hc1=>?_⟩
  ·have hii1:i1<x0.length:=by have:=of_decide_eq_true hc1;omega
   replace hR:=loopN_step hR hii1
   refine rg ⟨by (intros;omega),trivial,by (intros;omega),trivial⟩ ?_
   refine rg ⟨by ( intros;simp only [inR];omega),trivial⟩ ?_
   exact hK1 (v1.set i1 (x0.getD i1 default)) hii1 (by ((try clear hR hK1);intros;(try simp only [decide_eq_true_eq,decide_eq_false_iff_not,Bool.or_eq_true,Bool.and_eq_true,or_f_iff,not_f_iff,not_t_iff,Bool.not_eq_true',inR] at *);(repeat' apply And.intro) <;> (simp_all [inR];done))) hR
  ·obtain rfl:i1=x0.length:=by have:=of_decide_eq_false hc1;omega
   replace hR:=loopN_end hR (Nat.lt_irrefl _)
   refine rg trivial ?_
   refine og (by (intros;omega)) ?_
   exact congrArg C47 hR
 exact Fn.go 23 Try.func47 (by kernel_rfl) (by kernel_rfl) (by simp [C47,Frs,FrsL,FrsB,rowOf,cInt,cBool,cStr,cSl,FrsL_app,cPerson,cUnion,cFamily]) (A47 x0) (by kernel_rfl) (aux _ (toPersonS_id x0))
def k47 (x0:List Person):Cl:=(hres (C47 x0),k1 (ok_laws_toPersonS x0))
def C88 (R:Union):LV×List (Nat×BC):=(.agg [.int .i64 R.man,.int .i64 R.woman,.int .i64 R.from0,.int .i64 R.to],[])
def laws_toUnion_m (x0:Union):Union:=x0
def A88 (x0:Union):Ann:=r0 7 [2] [2] (rt [] (C88 x0))
theorem ok_laws_toUnion (x0:Union):FnT Try.prog 88 [.agg (cUnion false x0)] (C88 x0):=by
 have aux:∀ R,laws_toUnion_m x0=R→slim (C88 R) (A88 x0) []:=by
  intro R hR
  refine rg trivial ?_
  exact congrArg C88 hR
 exact Fn.go 17 Try.func88 (by kernel_rfl) (by kernel_rfl) (by simp [C88,Frs,FrsL]) (A88 x0) (by kernel_rfl) (aux _ rfl)
def k88 (x0:Union):Cl:=(hres (C88 x0),k0 (ok_laws_toUnion x0))
def C48 (R:(List Union)):LV×List (Nat×BC):=(.own 0,[(0,.arr 4 R.length (rowOf (cUnion true) R))])
def laws_toUnionS_m (x0:List Union):(List Union):=loopN (fun i1 (v1:(List Union)) next=>next (v1.set i1 (x0.getD i1 default))) (fun (v1:(List Union))=>v1) x0.length 0 (List.replicate x0.length (default:Union))
def D48b1 (x0:List Union) (i1:Nat) (v1:(List Union)):Dl:=⟨[(4,.int .i64 ((i1:Nat):Int)),(3,.own 20003)],[(20003,.arr 4 x0.length (rowOf (cUnion true) v1))]⟩
def A48b1 (x0:List Union) (i1:Nat) (v1:(List Union)):Ann:=r0 1 [0,2,3,4,11] [20003] (cn (decide (((i1:Nat):Int)<((x0.length:Nat):Int))) (.reg 1 [] [(6,k88 (x0.getD i1 default)),(8,stC 20003 (cUnion true) x0.length v1 i1 (x0.getD i1 default))] [0,2,3,4] [20003] [] [pf (0≤(((i1:Nat):Int):Int)∧(((i1:Nat):Int):Int)<((x0.length:Nat):Int))] [] [0,4,0,8] (r1 1 [0,2,3,4] [20003] [pf (inR .i64 (((i1:Nat):Int)+1))] [0] (.next 0 [(20003,some 20003)] (D48b1 x0 (i1+1) (v1.set i1 (x0.getD i1 default)))))) (r0 1 [2] [20003] (.co false 20003 v1.length (rowOf (cUnion true) v1) [lnP (rowOf (cUnion true) v1) x0.length v1.length] [] 0 (rt [(0,some 20003)] (C48 v1)))))
def A48 (x0:List Union):Ann:=.reg 2 [] [(1002,msC 7 (cUnion true) 32 ((x0.length:Nat):Int) ((x0.length:Nat):Int) x0.length (default:Union) (rfl))] [0,2,3] [7] [] [] [] [0] (r0 1 [0,2,3,4] [7] (lp (D48b1 x0) [] [7] [(20003,some 7)] (D48b1 x0 0 (List.replicate x0.length (default:Union))) (A48b1 x0)))
theorem toUnionS_id (x:List Union):laws_toUnionS_m x=x:=loopN_copy x _ _ _ _ (by simp) (by simp) (fun k hk=>absurd hk (by omega))
theorem ok_laws_toUnionS (x0:List Union) (hx:x0.length≤1048576):FnT Try.prog 48 [.ro false 4 x0.length (rowOf (cUnion false) x0)] (C48 x0):=by
 have aux:∀ R,laws_toUnionS_m x0=R→slim (C48 R) (A48 x0) []:=by
  intro R hR
  refine rg ⟨by (intros;omega),trivial⟩ ?_
  refine rg trivial ?_
  revert hR;refine lN (fun i v=>v.length=x0.length) (by ((try clear hR);intros;(try simp only [decide_eq_true_eq,decide_eq_false_iff_not,Bool.or_eq_true,Bool.and_eq_true,or_f_iff,not_f_iff,not_t_iff,Bool.not_eq_true',inR] at *);(repeat' apply And.intro) <;> (simp_all [inR];done))) rfl fun i1 v1 F1 hn1 hI1 hR hK1=>?_
  refine rg trivial ?_
  refine ⟨fun hc1=>?_,fun hc1=>?_⟩
  ·have hii1:i1<x0.length:=by have:=of_decide_eq_true hc1;omega
   replace hR:=loopN_step hR hii1
   refine rg ⟨by (intros;omega),trivial,by (intros;omega),trivial⟩ ?_
   refine rg ⟨by ( intros;simp only [inR];omega),trivial⟩ ?_
   exact hK1 (v1.set i1 (x0.getD i1 default)) hii1 (by ((try clear hR hK1);intros;(try simp only [decide_eq_true_eq,decide_eq_false_iff_not,Bool.or_eq_true,Bool.and_eq_true,or_f_iff,not_f_iff,not_t_iff,Bool.not_eq_true',inR] at *);(repeat' apply And.intro) <;> (simp_all [inR];done))) hR
  ·obtain rfl:i1=x0.length:=by have:=of_decide_eq_false hc1;omega
   replace hR:=loopN_end hR (Nat.lt_irrefl _)
   refine rg trivial ?_
   refine og (by (intros;omega)) ?_
   exact congrArg C48 hR
 exact Fn.go 23 Try.func48 (by kernel_rfl) (by kernel_rfl) (by simp [C48,Frs,FrsL,FrsB,rowOf,cInt,cBool,cStr,cSl,FrsL_app,cPerson,cUnion,cFamily]) (A48 x0) (by kernel_rfl) (aux _ (toUnionS_id x0))
def k48 (x0:List Union):Cl:=(hres (C48 x0),k1 (ok_laws_toUnionS x0))
def C11 (R:Family):LV×List (Nat×BC):=(.agg [.own 0,.own 1],[(0,.arr 6 R.people.length (rowOf (cPerson true) R.people)),(1,.arr 4 R.unions.length (rowOf (cUnion true) R.unions))])
def laws_toFamily_m (x0:Family):Family:=x0
def A11 (x0:Family):Ann:=.reg 5 [] [(2002,k47 x0.people),(3002,k48 x0.unions)] [2] [2,1006,1010] [] [] [] [0,4] (rt [(0,some 1006),(1,some 1010)] (C11 x0))
theorem ok_laws_toFamily (x0:Family) (hx:x0.people.length≤1048576∧x0.unions.length≤1048576):FnT Try.prog 11 [.agg (cFamily false x0)] (C11 x0):=by
 have aux:∀ R,laws_toFamily_m x0=R→slim (C11 R) (A11 x0) []:=by
  intro R hR
  refine rg ⟨by (intros;omega),by (intros;omega),trivial⟩ ?_
  exact congrArg C11 hR
 exact Fn.go 13 Try.func11 (by kernel_rfl) (by kernel_rfl) (by simp [C11,Frs,FrsL,FrsB,rowOf,cInt,cBool,cStr,cSl,FrsL_app,cPerson,cUnion,cFamily]) (A11 x0) (by kernel_rfl) (aux _ rfl)
def k11 (x0:Family):Cl:=(hres (C11 x0),k1 (ok_laws_toFamily x0))
def C101 (R:Bool):LV×List (Nat×BC):=(.bool R,[])
def eqPerson (x0:Person) (x1:Person):Bool:=bif (!(x0.name == x1.name)) then false else (bif (!decide (x0.sex=x1.sex)) then false else (bif (!decide (x0.father=x1.father)) then false else (bif (!decide (x0.mother=x1.mother)) then false else (bif (!decide (x0.born=x1.born)) then false else (bif (!decide (x0.died=x1.died)) then false else true)))))
def A101 (x0:Person) (x1:Person):Ann:=r0 1 [2,3,4] [2,3] (r0 1 [2,3,4,9] [2,3] (cn (!(x0.name == x1.name)) (r0 1 [2,3,4] [2,3] (rt [] (C101 false))) (r0 1 [2,3,4,14] [2,3] (cn (!decide (x0.sex=x1.sex)) (r0 1 [2,3,4] [2,3] (rt [] (C101 false))) (r0 1 [2,3,4,19] [2,3] (cn (!decide (x0.father=x1.father)) (r0 1 [2,3,4] [2,3] (rt [] (C101 false))) (r0 1 [2,3,4,24] [2,3] (cn (!decide (x0.mother=x1.mother)) (r0 1 [2,3,4] [2,3] (rt [] (C101 false))) (r0 1 [2,3,4,29] [2,3] (cn (!decide (x0.born=x1.born)) (r0 1 [2,3,4] [2,3] (rt [] (C101 false))) (r0 1 [4,34] [] (cn (!decide (x0.died=x1.died)) (r0 1 [4] [] (rt [] (C101 false))) (r0 1 [4] [] (rt [] (C101 true)))))))))))))))
theorem eqPerson_self (x:Person):eqPerson x x=true:=by simp [eqPerson]
theorem ok_laws_eqPerson (x0:Person) (x1:Person):FnT Try.prog 101 [.agg (cPerson false x0),.agg (cPerson false x1)] (C101 (eqPerson x0 x1)):=by
 have aux:∀ R,eqPerson x0 x1=R→slim (C101 R) (A101 x0 x1) []:=by
  intro R hR
  refine rg trivial ?_
  refine rg trivial ?_
  revert hR;refine cd (fun hc1 hR=>?_) fun hc1 hR=>?_
  ·
    refine rg trivial ?_
    exact congrArg C101 hR
  ·
    refine rg trivial ?_
    revert hR;refine cd (fun hc2 hR=>?_) fun hc2 hR=>?_
    ·
      refine rg trivial ?_
      exact congrArg C101 hR
    ·
      refine rg trivial ?_
      revert hR;refine cd (fun hc3 hR=>?_) fun hc3 hR=>?_
      ·
        refine rg trivial ?_
        exact congrArg C101 hR
      ·
        refine rg trivial ?_
        revert hR;refine cd (fun hc4 hR=>?_) fun hc4 hR=>?_
        ·
          refine rg trivial ?_
          exact congrArg C101 hR
        ·
          refine rg trivial ?_
          revert hR;refine cd (fun hc5 hR=>?_) fun hc5 hR=>?_
          ·
            refine rg trivial ?_
            exact congrArg C101 hR
          ·
            refine rg trivial ?_
            revert hR;refine cd (fun hc6 hR=>?_) fun hc6 hR=>?_
            ·
              refine rg trivial ?_
              exact congrArg C101 hR
            ·
              refine rg trivial ?_
              exact congrArg C101 hR
 exact Fn.go 35 Try.func101 (by kernel_rfl) (by kernel_rfl) (by simp [C101,Frs,FrsL]) (A101 x0 x1) (by kernel_rfl) (aux _ rfl)
def k101 (x0:Person) (x1:Person):Cl:=(hres (C101 (eqPerson x0 x1)),k0 (ok_laws_eqPerson x0 x1))
def C53 (R:Bool):LV×List (Nat×BC):=(.bool R,[])
def eqPersonS (x0:List Person) (x1:List Person):Bool:=bif (!decide (((x0.length:Nat):Int)=((x1.length:Nat):Int))) then false else (loopN (fun i1 (v1:Unit) next=>bif (!(eqPerson (x0.getD i1 default) (x1.getD i1 default))) then false else (next ())) (fun (v1:Unit)=>true) x0.length 0 ())
def D53b1 (x0:List Person) (x1:List Person) (i1:Nat) (v1:Unit):Dl:=⟨[(5,.int .i64 ((i1:Nat):Int))],[]⟩
def A53b1 (x0:List Person) (x1:List Person) (i1:Nat) (v1:Unit):Ann:=r0 1 [0,1,4,5,14] [] (cn (decide (((i1:Nat):Int)<((x0.length:Nat):Int))) (.reg 1 [] [(8,k101 (x0.getD i1 default) (x1.getD i1 default))] [0,1,4,5,26] [] [] [pf (0≤(((i1:Nat):Int):Int)∧(((i1:Nat):Int):Int)<((x0.length:Nat):Int)),pf (0≤(((i1:Nat):Int):Int)∧(((i1:Nat):Int):Int)<((x1.length:Nat):Int))] [] [0,4,8] (cn (!(eqPerson (x0.getD i1 default) (x1.getD i1 default))) (r0 1 [0,1,4,5] [] (rt [] (C53 false))) (r1 1 [0,1,4,5] [] [pf (inR .i64 (((i1:Nat):Int)+1))] [0] (.next 0 [] (D53b1 x0 x1 (i1+1) ()))))) (r0 1 [4] [] (rt [] (C53 true))))
def A53 (x0:List Person) (x1:List Person):Ann:=r0 1 [0,1,4] [] (r0 1 [0,1,4,10] [] (cn (!decide (((x0.length:Nat):Int)=((x1.length:Nat):Int))) (r0 1 [0,1,4] [] (rt [] (C53 false))) (r0 1 [0,1,4,5] [] (lp (D53b1 x0 x1) [] [] [] (D53b1 x0 x1 0 ()) (A53b1 x0 x1)))))
theorem eqPersonS_self (x:List Person):eqPersonS x x=true:=by
 simp only [eqPersonS,decide_true,Bool.not_true,cond_false]
 exact loopN_inv (fun _ _=>True) (fun r=>r=true) (fun i v next _ hn=>by simp only [eqPerson_self,Bool.not_true,cond_false];exact hn _ trivial) (fun _ _ _=>rfl) _ _ _ trivial
theorem ok_laws_eqPersonS (x0:List Person) (x1:List Person) (hx:x0.length≤1048576):FnT Try.prog 53 [.ro false 6 x0.length (rowOf (cPerson false) x0),.ro false 6 x1.length (rowOf (cPerson false) x1)] (C53 (eqPersonS x0 x1)):=by
 have aux:∀ R,eqPersonS x0 x1=R→slim (C53 R) (A53 x0 x1) []:=by
  intro R hR
  refine rg trivial ?_
  refine rg trivial ?_
  revert hR;refine cd (fun hc1 hR=>?_) fun hc1 hR=>?_
  ·
    refine rg trivial ?_
    exact congrArg C53 hR
  ·
    refine rg trivial ?_
    revert hR;refine lN (fun i v=>True) (by trivial) rfl fun i1 v1 F1 hn1 hI1 hR hK1=>?_
    refine rg trivial ?_
    refine ⟨fun hc2=>?_,fun hc2=>?_⟩
    · have hii1:i1<x0.length:=by have:=of_decide_eq_true hc2;omega
      replace hR:=loopN_step hR hii1
      refine rg ⟨by (intros;omega),by ((try clear hR hK1);intros;(try simp only [decide_eq_true_eq,decide_eq_false_iff_not,Bool.or_eq_true,Bool.and_eq_true,or_f_iff,not_f_iff,not_t_iff,Bool.not_eq_true',inR] at *);(repeat' apply And.intro) <;> (intros;omega)),trivial,trivial⟩ ?_
      revert hR;refine cd (fun hc3 hR=>?_) fun hc3 hR=>?_
      ·
        refine rg trivial ?_
        exact congrArg C53 hR
      ·
        refine rg ⟨by ( intros;simp only [inR];omega),trivial⟩ ?_
        exact hK1 () hii1 (by trivial) hR
    · obtain rfl:i1=x0.length:=by have:=of_decide_eq_false hc2;omega
      replace hR:=loopN_end hR (Nat.lt_irrefl _)
      refine rg trivial ?_
      exact congrArg C53 hR
 exact Fn.go 27 Try.func53 (by kernel_rfl) (by kernel_rfl) (by simp [C53,Frs,FrsL]) (A53 x0 x1) (by kernel_rfl) (aux _ rfl)
def k53 (x0:List Person) (x1:List Person):Cl:=(hres (C53 (eqPersonS x0 x1)),k1 (ok_laws_eqPersonS x0 x1))
def C102 (R:Bool):LV×List (Nat×BC):=(.bool R,[])
def eqUnion (x0:Union) (x1:Union):Bool:=bif (!decide (x0.man=x1.man)) then false else (bif (!decide (x0.woman=x1.woman)) then false else (bif (!decide (x0.from0=x1.from0)) then false else (bif (!decide (x0.to=x1.to)) then false else true)))
def A102 (x0:Union) (x1:Union):Ann:=r0 1 [2,3,4] [2,3] (r0 1 [2,3,4,9] [2,3] (cn (!decide (x0.man=x1.man)) (r0 1 [2,3,4] [2,3] (rt [] (C102 false))) (r0 1 [2,3,4,14] [2,3] (cn (!decide (x0.woman=x1.woman)) (r0 1 [2,3,4] [2,3] (rt [] (C102 false))) (r0 1 [2,3,4,19] [2,3] (cn (!decide (x0.from0=x1.from0)) (r0 1 [2,3,4] [2,3] (rt [] (C102 false))) (r0 1 [4,24] [] (cn (!decide (x0.to=x1.to)) (r0 1 [4] [] (rt [] (C102 false))) (r0 1 [4] [] (rt [] (C102 true)))))))))))
theorem eqUnion_self (x:Union):eqUnion x x=true:=by simp [eqUnion]
theorem ok_laws_eqUnion (x0:Union) (x1:Union):FnT Try.prog 102 [.agg (cUnion false x0),.agg (cUnion false x1)] (C102 (eqUnion x0 x1)):=by
 have aux:∀ R,eqUnion x0 x1=R→slim (C102 R) (A102 x0 x1) []:=by
  intro R hR
  refine rg trivial ?_
  refine rg trivial ?_
  revert hR;refine cd (fun hc1 hR=>?_) fun hc1 hR=>?_
  ·
    refine rg trivial ?_
    exact congrArg C102 hR
  ·
    refine rg trivial ?_
    revert hR;refine cd (fun hc2 hR=>?_) fun hc2 hR=>?_
    ·
      refine rg trivial ?_
      exact congrArg C102 hR
    ·
      refine rg trivial ?_
      revert hR;refine cd (fun hc3 hR=>?_) fun hc3 hR=>?_
      ·
        refine rg trivial ?_
        exact congrArg C102 hR
      ·
        refine rg trivial ?_
        revert hR;refine cd (fun hc4 hR=>?_) fun hc4 hR=>?_
        ·
          refine rg trivial ?_
          exact congrArg C102 hR
        ·
          refine rg trivial ?_
          exact congrArg C102 hR
 exact Fn.go 25 Try.func102 (by kernel_rfl) (by kernel_rfl) (by simp [C102,Frs,FrsL]) (A102 x0 x1) (by kernel_rfl) (aux _ rfl)
def k102 (x0:Union) (x1:Union):Cl:=(hres (C102 (eqUnion x0 x1)),k0 (ok_laws_eqUnion x0 x1))
def C54 (R:Bool):LV×List (Nat×BC):=(.bool R,[])
def eqUnionS (x0:List Union) (x1:List Union):Bool:=bif (!decide (((x0.length:Nat):Int)=((x1.length:Nat):Int))) then false else (loopN (fun i1 (v1:Unit) next=>bif (!(eqUnion (x0.getD i1 default) (x1.getD i1 default))) then false else (next ())) (fun (v1:Unit)=>true) x0.length 0 ())
def D54b1 (x0:List Union) (x1:List Union) (i1:Nat) (v1:Unit):Dl:=⟨[(5,.int .i64 ((i1:Nat):Int))],[]⟩
def A54b1 (x0:List Union) (x1:List Union) (i1:Nat) (v1:Unit):Ann:=r0 1 [0,1,4,5,14] [] (cn (decide (((i1:Nat):Int)<((x0.length:Nat):Int))) (.reg 1 [] [(8,k102 (x0.getD i1 default) (x1.getD i1 default))] [0,1,4,5,26] [] [] [pf (0≤(((i1:Nat):Int):Int)∧(((i1:Nat):Int):Int)<((x0.length:Nat):Int)),pf (0≤(((i1:Nat):Int):Int)∧(((i1:Nat):Int):Int)<((x1.length:Nat):Int))] [] [0,4,8] (cn (!(eqUnion (x0.getD i1 default) (x1.getD i1 default))) (r0 1 [0,1,4,5] [] (rt [] (C54 false))) (r1 1 [0,1,4,5] [] [pf (inR .i64 (((i1:Nat):Int)+1))] [0] (.next 0 [] (D54b1 x0 x1 (i1+1) ()))))) (r0 1 [4] [] (rt [] (C54 true))))
def A54 (x0:List Union) (x1:List Union):Ann:=r0 1 [0,1,4] [] (r0 1 [0,1,4,10] [] (cn (!decide (((x0.length:Nat):Int)=((x1.length:Nat):Int))) (r0 1 [0,1,4] [] (rt [] (C54 false))) (r0 1 [0,1,4,5] [] (lp (D54b1 x0 x1) [] [] [] (D54b1 x0 x1 0 ()) (A54b1 x0 x1)))))
theorem eqUnionS_self (x:List Union):eqUnionS x x=true:=by
 simp only [eqUnionS,decide_true,Bool.not_true,cond_false]
 exact loopN_inv (fun _ _=>True) (fun r=>r=true) (fun i v next _ hn=>by simp only [eqUnion_self,Bool.not_true,cond_false];exact hn _ trivial) (fun _ _ _=>rfl) _ _ _ trivial
theorem ok_laws_eqUnionS (x0:List Union) (x1:List Union) (hx:x0.length≤1048576):FnT Try.prog 54 [.ro false 4 x0.length (rowOf (cUnion false) x0),.ro false 4 x1.length (rowOf (cUnion false) x1)] (C54 (eqUnionS x0 x1)):=by
 have aux:∀ R,eqUnionS x0 x1=R→slim (C54 R) (A54 x0 x1) []:=by
  intro R hR
  refine rg trivial ?_
  refine rg trivial ?_
  revert hR;refine cd (fun hc1 hR=>?_) fun hc1 hR=>?_
  ·
    refine rg trivial ?_
    exact congrArg C54 hR
  ·
    refine rg trivial ?_
    revert hR;refine lN (fun i v=>True) (by trivial) rfl fun i1 v1 F1 hn1 hI1 hR hK1=>?_
    refine rg trivial ?_
    refine ⟨fun hc2=>?_,fun hc2=>?_⟩
    · have hii1:i1<x0.length:=by have:=of_decide_eq_true hc2;omega
      replace hR:=loopN_step hR hii1
      refine rg ⟨by (intros;omega),by ((try clear hR hK1);intros;(try simp only [decide_eq_true_eq,decide_eq_false_iff_not,Bool.or_eq_true,Bool.and_eq_true,or_f_iff,not_f_iff,not_t_iff,Bool.not_eq_true',inR] at *);(repeat' apply And.intro) <;> (intros;omega)),trivial,trivial⟩ ?_
      revert hR;refine cd (fun hc3 hR=>?_) fun hc3 hR=>?_
      ·
        refine rg trivial ?_
        exact congrArg C54 hR
      ·
        refine rg ⟨by ( intros;simp only [inR];omega),trivial⟩ ?_
        exact hK1 () hii1 (by trivial) hR
    · obtain rfl:i1=x0.length:=by have:=of_decide_eq_false hc2;omega
      replace hR:=loopN_end hR (Nat.lt_irrefl _)
      refine rg trivial ?_
      exact congrArg C54 hR
 exact Fn.go 27 Try.func54 (by kernel_rfl) (by kernel_rfl) (by simp [C54,Frs,FrsL]) (A54 x0 x1) (by kernel_rfl) (aux _ rfl)
def k54 (x0:List Union) (x1:List Union):Cl:=(hres (C54 (eqUnionS x0 x1)),k1 (ok_laws_eqUnionS x0 x1))
def C14 (R:Bool):LV×List (Nat×BC):=(.bool R,[])
def eqFamily (x0:Family) (x1:Family):Bool:=bif (!(eqPersonS x0.people x1.people)) then false else (bif (!(eqUnionS x0.unions x1.unions)) then false else true)
def A14 (x0:Family) (x1:Family):Ann:=r0 1 [2,3,4] [2,3] (.reg 1 [] [(4,k53 x0.people x1.people)] [2,3,4,10] [2,3] [] [] [] [0] (cn (!(eqPersonS x0.people x1.people)) (r0 1 [2,3,4] [2,3] (rt [] (C14 false))) (.reg 1 [] [(4,k54 x0.unions x1.unions)] [4,16] [] [] [] [] [0] (cn (!(eqUnionS x0.unions x1.unions)) (r0 1 [4] [] (rt [] (C14 false))) (r0 1 [4] [] (rt [] (C14 true)))))))
theorem eqFamily_self (x:Family):eqFamily x x=true:=by simp [eqFamily,eqPersonS_self,eqUnionS_self]
theorem ok_laws_eqFamily (x0:Family) (x1:Family) (hx:x0.people.length≤1048576∧x0.unions.length≤1048576):FnT Try.prog 14 [.agg (cFamily false x0),.agg (cFamily false x1)] (C14 (eqFamily x0 x1)):=by
 have aux:∀ R,eqFamily x0 x1=R→slim (C14 R) (A14 x0 x1) []:=by
  intro R hR
  refine rg trivial ?_
  refine rg ⟨by (intros;omega),trivial⟩ ?_
  revert hR;refine cd (fun hc1 hR=>?_) fun hc1 hR=>?_
  ·
    refine rg trivial ?_
    exact congrArg C14 hR
  ·
    refine rg ⟨by (intros;omega),trivial⟩ ?_
    revert hR;refine cd (fun hc2 hR=>?_) fun hc2 hR=>?_
    ·
      refine rg trivial ?_
      exact congrArg C14 hR
    ·
      refine rg trivial ?_
      exact congrArg C14 hR
 exact Fn.go 17 Try.func14 (by kernel_rfl) (by kernel_rfl) (by simp [C14,Frs,FrsL]) (A14 x0 x1) (by kernel_rfl) (aux _ rfl)
def k14 (x0:Family) (x1:Family):Cl:=(hres (C14 (eqFamily x0 x1)),k1 (ok_laws_eqFamily x0 x1))
end Go.Proofs.Ytkkijpibajigfaa
