import Derived.Test.YtaageiiodlfeiaaGreatVS76
set_option maxHeartbeats 4000000
set_option linter.unusedSimpArgs false
set_option linter.unusedVariables false
namespace Go.Proofs.YtaageiiodlfeiaaGreat
open Go Go.Lite Go.Proofs
theorem zi8 {x:Family} (hx:za4 x=true) {o:List Int} (ho:o.Perm (upto x.people.length)):zfi x o=zei x o:=by
 have h:=zuy ho
 have hlen:=h.len
 have hnd:=List.nodup_iff_pairwise_ne.1 (ho.nodup_iff.2 (zkp _))
 unfold zfi
 refine zb3 (fun i (v:List Int)=>v.length=x.people.length∧∀ k:Nat,k<i→v.getD (o.getD k default).toNat default=((k:Nat):Int)) (fun r=>r=zei x o) ⟨by rw [List.length_replicate,hlen],fun k hk=>absurd hk (Nat.not_lt_zero _)⟩ (fun i v next hi hv hn=>hn _ ⟨by rw [List.length_set];exact hv.1,fun k hk=>?_⟩) (fun v hv=>?_)
 ·have hri:=h.rng i hi
  rw [zcf]
  by_cases c:k=i
  ·subst c;rw [if_pos ⟨rfl,by rw [hv.1];omega⟩]
  ·have hrk:=h.rng k om
   rw [if_neg (fun g=>zod hnd i hi k om om)]
   exact hv.2 k om
 ·have hpos:∀ q:Int,0≤q→q<x.people.length→v.getD q.toNat default=(zbs o ((x.people.length:Nat):Int)).1.getD q.toNat default:=fun q h0 h1=>by
   obtain ⟨g1,g2⟩:=h.pos q h0 h1
   have:=hv.2 ((zbs o ((x.people.length:Nat):Int)).1.getD q.toNat default).toNat om
   rw [g2] at this
   omega
  refine zb3 (fun i (w:List Person)=>w=(o.take i).map fun i=>zeh (zbs o ((x.people.length:Nat):Int)).1 (x.people.getD i.toNat default)) (fun r=>r=zei x o) rfl (fun i w next hi hw hn=>?_) (fun w hw=>?_)
  ·have hri:=h.rng i hi
   have p:=fam_p hx (k:=(o.getD i default).toNat) om
   have fa:=p.fa
   have mo:=p.mo
   rw [zxz]
   have key:∀ q:Person,q=zeh (zbs o ((x.people.length:Nat):Int)).1 (x.people.getD (o.getD i default).toNat default)→w++[q]=(o.take (i+1)).map fun i=>zeh (zbs o ((x.people.length:Nat):Int)).1 (x.people.getD i.toNat default):=by
    intro q hq
    rw [zg8 o default hi,List.map_append,← hw,hq];rfl
   have ef:(bif decide (0≤(x.people.getD (o.getD i default).toNat default).father) then v.getD (x.people.getD (o.getD i default).toNat default).father.toNat default else (x.people.getD (o.getD i default).toNat default).father)=(zeh (zbs o ((x.people.length:Nat):Int)).1 (x.people.getD (o.getD i default).toNat default)).father:=by
    unfold zeh
    dsimp only
    cases c:decide (0≤(x.people.getD (o.getD i default).toNat default).father)
    ·rfl
    ·have c:=of_decide_eq_true c
     simp only [cond_true]
     exact hpos _ c om
   rw [ef]
   cases c:decide (0≤(x.people.getD (o.getD i default).toNat default).mother)<;>simp only [cond_true,cond_false]
   ·exact hn _ (key _ (by unfold zeh;rw [c];rfl))
   ·refine hn _ (key _ ?_)
    rw [hpos _ (of_decide_eq_true c) (by have:=of_decide_eq_true c;omega)]
    unfold zeh;rw [c];rfl
  ·refine zb3 (fun i (u:List Union)=>u=(x.unions.take i).map (zq2 (zbs o ((x.people.length:Nat):Int)).1)) (fun r=>r=zei x o) rfl (fun i u next hi hu hn=>hn _ ?_) (fun u hu=>?_)
   ·have f:=fam_u hx hi
    have hm:=f.man
    have hwm:=f.woman
    rw [zg8 x.unions default hi,List.map_append,← hu,hpos _ hm.1 hm.2,hpos _ hwm.1 hwm.2];rfl
   ·rw [List.take_length] at hw hu
    rw [hw,hu];rfl
structure Step where
 kind:Int
 age:Int
 deriving Inhabited
def cStep (fr:Bool) (x:Step):List LV:=cInt .i64 x.kind++cInt .i64 x.age

structure KinType where
 ego:Int
 steps:List Step
 deriving Inhabited
def zdv (fr:Bool) (x:KinType):List LV:=cInt .i64 x.ego++cSl fr 2 (cStep fr) x.steps

def C95 (R:Int):LV×List (Nat×BC):=(.int .i64 R,[])
def zb8 (x0:Int):Int:=bif (decide ((x0.tmod 2)=1)) then 1 else 2
def A95 (x0:Int):Ann:=r0 1 [0,2] [] (r1 1 [2,5] [] [pf ((2:Int)≠0)] [0] (cn (decide ((x0.tmod 2)=1)) (r0 1 [2] [] (rt [] (C95 1))) (r0 1 [2] [] (rt [] (C95 2)))))
theorem znm (x0:Int):FnT Tryz.prog 95 [.int .i64 x0] (C95 (zb8 x0)):=by
 have aux:∀ R,zb8 x0=R→slim (C95 R) (A95 x0) []:=by
  intro R hR
  refine rg trivial ?_
  refine rg ⟨by trivial,trivial⟩ ?_
  revert hR;refine cd (fun hc1 hR=>?_) fun hc1 hR=>?_
  ·
    refine rg trivial ?_
    exact congrArg C95 hR
  ·
    refine rg trivial ?_
    exact congrArg C95 hR
 exact Fn.go 6 Tryz.func95 zah zah (by simp [C95,Frs,FrsL]) (A95 x0) zah (aux _ rfl)
def k95 (x0:Int):Cl:=(hres (C95 (zb8 x0)),k0 (znm x0))
def C88 (R:Int):LV×List (Nat×BC):=(.int .i64 R,[])
def l3Sex (x0:Int):Int:=bif (decide ((x0.tmod 2)=1)) then 1 else 2
def A88 (x0:Int):Ann:=r0 1 [0,2] [] (r1 1 [2,5] [] [pf ((2:Int)≠0)] [0] (cn (decide ((x0.tmod 2)=1)) (r0 1 [2] [] (rt [] (C88 1))) (r0 1 [2] [] (rt [] (C88 2)))))
theorem zra (x0:Int):FnT Tryz.prog 88 [.int .i64 x0] (C88 (l3Sex x0)):=by
 have aux:∀ R,l3Sex x0=R→slim (C88 R) (A88 x0) []:=by
  intro R hR
  refine rg trivial ?_
  refine rg ⟨by trivial,trivial⟩ ?_
  revert hR;refine cd (fun hc1 hR=>?_) fun hc1 hR=>?_
  ·
    refine rg trivial ?_
    exact congrArg C88 hR
  ·
    refine rg trivial ?_
    exact congrArg C88 hR
 exact Fn.go 6 Tryz.func88 zah zah (by simp [C88,Frs,FrsL]) (A88 x0) zah (aux _ rfl)
def k88 (x0:Int):Cl:=(hres (C88 (l3Sex x0)),k0 (zra x0))
def C94 (R:Bool):LV×List (Nat×BC):=(.bool R,[])
def zjq (x0:Step) (x1:Int):Bool:=bif ((((decide (x0.kind<1))||(decide (8<x0.kind)))||(decide (x0.age<0)))||(decide (2<x0.age))) then false else (bif (((!decide (x0.age=0))&&(!decide (x0.kind=3)))&&(!decide (x0.kind=4))) then false else (bif (((decide (x0.kind=7))&&(decide (x1=1)))||((decide (x0.kind=8))&&(decide (x1=2)))) then false else true))
def A94 (x0:Step) (x1:Int):Ann:=r0 1 [1,2,4] [2] (.reg 1 [] [] [1,2,4,5] [2] [!(decide (x0.kind<1)),decide (x0.kind<1),!((decide (x0.kind<1))||(decide (8<x0.kind))),(decide (x0.kind<1))||(decide (8<x0.kind)),!(((decide (x0.kind<1))||(decide (8<x0.kind)))||(decide (x0.age<0))),((decide (x0.kind<1))||(decide (8<x0.kind)))||(decide (x0.age<0))] [] [] [1,1,6,9,9,14,17,17,22] (cn ((((decide (x0.kind<1))||(decide (8<x0.kind)))||(decide (x0.age<0)))||(decide (2<x0.age))) (r0 1 [4] [] (rt [] (C94 false))) (.reg 1 [] [] [1,2,4,24] [2] [!decide (x0.age=0),(!decide (x0.age=0))&&(!decide (x0.kind=3))] [] [] [1,1,1,5,5,5] (cn (((!decide (x0.age=0))&&(!decide (x0.kind=3)))&&(!decide (x0.kind=4))) (r0 1 [4] [] (rt [] (C94 false))) (.reg 1 [] [] [4,38] [] [decide (x0.kind=7),!((decide (x0.kind=7))&&(decide (x1=1))),(!((decide (x0.kind=7))&&(decide (x1=1))))&&(decide (x0.kind=8)),(decide (x0.kind=7))&&(decide (x1=1))] [gt (!((decide (x0.kind=7))&&(decide (x1=1)))) (gt (decide (x0.kind=8)) (pf (((!((decide (x0.kind=7))&&(decide (x1=1))))&&(decide (x0.kind=8)))=true)))] [] [1,1,5,5,5,9,5,0,14] (cn (((decide (x0.kind=7))&&(decide (x1=1)))||((decide (x0.kind=8))&&(decide (x1=2)))) (r0 1 [4] [] (rt [] (C94 false))) (r0 1 [4] [] (rt [] (C94 true)))))))))
theorem zma (x0:Step) (x1:Int):FnT Tryz.prog 94 [.agg (cStep false x0),.int .i64 x1] (C94 (zjq x0 x1)):=by
 have aux:∀ R,zjq x0 x1=R→slim (C94 R) (A94 x0 x1) []:=by
  intro R hR
  refine rg trivial ?_
  refine rg trivial ?_
  revert hR;refine cd (fun hc1 hR=>?_) fun hc1 hR=>?_
  ·
    refine rg trivial ?_
    exact congrArg C94 hR
  ·
    refine rg trivial ?_
    revert hR;refine cd (fun hc2 hR=>?_) fun hc2 hR=>?_
    ·
      refine rg trivial ?_
      exact congrArg C94 hR
    ·
      refine rg ⟨by ((try clear hR);intros;(try simp only [decide_eq_true_eq,decide_eq_false_iff_not,Bool.or_eq_true,Bool.and_eq_true,zbd,za9,zba,Bool.not_eq_true',inR] at *);(repeat' apply And.intro)<;>(intros;omega)),trivial⟩ ?_
      revert hR;refine cd (fun hc3 hR=>?_) fun hc3 hR=>?_
      ·
        refine rg trivial ?_
        exact congrArg C94 hR
      ·
        refine rg trivial ?_
        exact congrArg C94 hR
 exact Fn.go 55 Tryz.func94 zah zah (by simp [C94,Frs,FrsL]) (A94 x0 x1) zah (aux _ rfl)
def k94 (x0:Step) (x1:Int):Cl:=(hres (C94 (zjq x0 x1)),k0 (zma x0 x1))
def C87 (R:Bool):LV×List (Nat×BC):=(.bool R,[])
def zn2 (x0:Step) (x1:Int):Bool:=bif ((!(l1In x0.kind 1 8))||(!(l1In x0.age 0 2))) then false else (bif (((!decide (x0.age=0))&&(!decide (x0.kind=3)))&&(!decide (x0.kind=4))) then false else (((!decide (x0.kind=7))||(!decide (x1=1)))&&((!decide (x0.kind=8))||(!decide (x1=2)))))
def A87 (x0:Step) (x1:Int):Ann:=r0 1 [1,2,4] [2] (.reg 1 [] [(2,k86 x0.kind 1 8),(7,cg (!(!(l1In x0.kind 1 8))) (k86 x0.age 0 2))] [1,2,4,14] [2] [!(!(l1In x0.kind 1 8)),!(l1In x0.kind 1 8)] [] [] [0,1,1,4,1,6] (cn ((!(l1In x0.kind 1 8))||(!(l1In x0.age 0 2))) (r0 1 [1,2,4] [2] (rt [] (C87 false))) (.reg 1 [] [] [1,2,4,27] [2] [!decide (x0.age=0),(!decide (x0.age=0))&&(!decide (x0.kind=3))] [] [] [1,1,1,5,5,5] (cn (((!decide (x0.age=0))&&(!decide (x0.kind=3)))&&(!decide (x0.kind=4))) (r0 1 [1,2,4] [2] (rt [] (C87 false))) (.reg 1 [] [] [4] [] [!(!decide (x0.kind=7)),!decide (x0.kind=7),(!decide (x0.kind=7))||(!decide (x1=1)),((!decide (x0.kind=7))||(!decide (x1=1)))&&(!(!decide (x0.kind=8)))] [gt ((!decide (x0.kind=7))||(!decide (x1=1))) (gf (!decide (x0.kind=8)) (pf ((((!decide (x0.kind=7))||(!decide (x1=1)))&&(!(!decide (x0.kind=8))))=true)))] [] [1,6,9,9,9,13,9,0,9] (rt [] (C87 (((!decide (x0.kind=7))||(!decide (x1=1)))&&((!decide (x0.kind=8))||(!decide (x1=2)))))))))))
theorem zov (x0:Step) (x1:Int):FnT Tryz.prog 87 [.agg (cStep false x0),.int .i64 x1] (C87 (zn2 x0 x1)):=by
 have aux:∀ R,zn2 x0 x1=R→slim (C87 R) (A87 x0 x1) []:=by
  intro R hR
  refine rg trivial ?_
  refine rg ⟨trivial,fun hg0=>trivial,trivial⟩ ?_
  revert hR;refine cd (fun hc1 hR=>?_) fun hc1 hR=>?_
  ·
    refine rg trivial ?_
    exact congrArg C87 hR
  ·
    refine rg trivial ?_
    revert hR;refine cd (fun hc2 hR=>?_) fun hc2 hR=>?_
    ·
      refine rg trivial ?_
      exact congrArg C87 hR
    ·
      refine rg ⟨by ((try clear hR);intros;(try simp only [decide_eq_true_eq,decide_eq_false_iff_not,Bool.or_eq_true,Bool.and_eq_true,zbd,za9,zba,Bool.not_eq_true',inR] at *);(repeat' apply And.intro)<;>(intros;omega)),trivial⟩ ?_
      exact congrArg C87 hR
 exact Fn.go 44 Tryz.func87 zah zah (by simp [C87,Frs,FrsL]) (A87 x0 x1) zah (aux _ rfl)
def k87 (x0:Step) (x1:Int):Cl:=(hres (C87 (zn2 x0 x1)),k0 (zov x0 x1))
def C50 (R:Bool):LV×List (Nat×BC):=(.bool R,[])
def zd2 (x0:KinType):Bool:=bif (((decide (x0.ego<0))||(decide (2<x0.ego)))||(decide (8<((x0.steps.length:Nat):Int)))) then false else (loopN (fun i1 (v1:Int) next=>bif (!(zjq (x0.steps.getD i1 default) v1)) then false else (next (zb8 ((x0.steps.getD i1 default).kind)))) (fun (v1:Int)=>true) x0.steps.length 0 x0.ego)
def D50b1 (x0:KinType) (i1:Nat) (v1:Int):Dl:=⟨[(25,.int .i64 ((i1:Nat):Int)),(3,.int .i64 v1)],[]⟩
def A50b1 (x0:KinType) (i1:Nat) (v1:Int):Ann:=r0 1 [2,3,23,24,25,26] [] (cn (decide (((i1:Nat):Int)<((x0.steps.length:Nat):Int))) (r1 1 [2,3,5,23,24,25] [5] [pf (0≤(((i1:Nat):Int):Int)∧(((i1:Nat):Int):Int)<((x0.steps.length:Nat):Int))] [0] (.reg 1 [] [(2,k94 (x0.steps.getD i1 default) v1)] [2,3,5,23,24,25,32] [5] [] [] [] [0] (cn (!(zjq (x0.steps.getD i1 default) v1)) (r0 1 [2,3,5,23,24,25] [5] (rt [] (C50 false))) (.reg 1 [] [(2,k95 ((x0.steps.getD i1 default).kind))] [2,3,23,24,25] [] [] [] [] [0] (r1 1 [2,3,23,24,25] [] [pf (inR .i64 (((i1:Nat):Int)+1))] [0] (.next 0 [] (D50b1 x0 (i1+1) (zb8 ((x0.steps.getD i1 default).kind))))))))) (r0 1 [2] [] (rt [] (C50 true))))
def A50 (x0:KinType):Ann:=r0 1 [1,2] [1] (.reg 1 [] [] [1,2,19] [1] [!(decide (x0.ego<0)),decide (x0.ego<0),!((decide (x0.ego<0))||(decide (2<x0.ego))),(decide (x0.ego<0))||(decide (2<x0.ego))] [] [] [1,1,6,9,9,9,14] (cn (((decide (x0.ego<0))||(decide (2<x0.ego)))||(decide (8<((x0.steps.length:Nat):Int)))) (r0 1 [1,2] [1] (rt [] (C50 false))) (r0 1 [1,2,3] [1] (r0 1 [2,3,23,24,25] [] (lp (D50b1 x0) [] [] [] (D50b1 x0 0 x0.ego) (A50b1 x0))))))
theorem zpa (x0:KinType) (h0:x0.steps.length≤1048576):FnT Tryz.prog 50 [.agg (zdv false x0)] (C50 (zd2 x0)):=by
 have aux:∀ R,zd2 x0=R→slim (C50 R) (A50 x0) []:=by
  intro R hR
  refine rg trivial ?_
  refine rg trivial ?_
  revert hR;refine cd (fun hc1 hR=>?_) fun hc1 hR=>?_
  ·
    refine rg trivial ?_
    exact congrArg C50 hR
  ·
    refine rg trivial ?_
    refine rg trivial ?_
    revert hR;refine lN (fun i v=>True) zai rfl fun i1 v1 F1 hn1 hI1 hR hK1=>?_
    refine rg trivial ?_
    refine ⟨fun hc2=>?_,fun hc2=>?_⟩
    · have hii1:i1<x0.steps.length:=by have:=of_decide_eq_true hc2;omega
      replace hR:=zbj hR hii1
      refine rg ⟨by (intros;omega),trivial⟩ ?_
      refine rg ⟨trivial,trivial⟩ ?_
      revert hR;refine cd (fun hc3 hR=>?_) fun hc3 hR=>?_
      ·
        refine rg trivial ?_
        exact congrArg C50 hR
      ·
        refine rg ⟨trivial,trivial⟩ ?_
        refine rg ⟨by ( intros;simp only [inR];omega),trivial⟩ ?_
        exact hK1 (zb8 ((x0.steps.getD i1 default).kind)) hii1 zai hR
    · obtain rfl:i1=x0.steps.length:=by have:=of_decide_eq_false hc2;omega
      replace hR:=zbp hR (Nat.lt_irrefl _)
      refine rg trivial ?_
      exact congrArg C50 hR
 exact Fn.go 37 Tryz.func50 zah zah (by simp [C50,Frs,FrsL]) (A50 x0) zah (aux _ rfl)
def k50 (x0:KinType):Cl:=(hres (C50 (zd2 x0)),k1 (zpa x0))
def C43 (R:Bool):LV×List (Nat×BC):=(.bool R,[])
def zc6 (x0:KinType):Bool:=bif ((!(l1In x0.ego 0 2))||(decide (8<((x0.steps.length:Nat):Int)))) then false else (loopN (fun i1 (v1:Int) next=>bif (!(zn2 (x0.steps.getD i1 default) v1)) then false else (next (l3Sex ((x0.steps.getD i1 default).kind)))) (fun (v1:Int)=>true) x0.steps.length 0 x0.ego)
def D43b1 (x0:KinType) (i1:Nat) (v1:Int):Dl:=⟨[(21,.int .i64 ((i1:Nat):Int)),(3,.int .i64 v1)],[]⟩
def A43b1 (x0:KinType) (i1:Nat) (v1:Int):Ann:=r0 1 [2,3,19,20,21,22] [] (cn (decide (((i1:Nat):Int)<((x0.steps.length:Nat):Int))) (r1 1 [2,3,5,19,20,21] [5] [pf (0≤(((i1:Nat):Int):Int)∧(((i1:Nat):Int):Int)<((x0.steps.length:Nat):Int))] [0] (.reg 1 [] [(2,k87 (x0.steps.getD i1 default) v1)] [2,3,5,19,20,21,28] [5] [] [] [] [0] (cn (!(zn2 (x0.steps.getD i1 default) v1)) (r0 1 [2,3,5,19,20,21] [5] (rt [] (C43 false))) (.reg 1 [] [(2,k88 ((x0.steps.getD i1 default).kind))] [2,3,19,20,21] [] [] [] [] [0] (r1 1 [2,3,19,20,21] [] [pf (inR .i64 (((i1:Nat):Int)+1))] [0] (.next 0 [] (D43b1 x0 (i1+1) (l3Sex ((x0.steps.getD i1 default).kind))))))))) (r0 1 [2] [] (rt [] (C43 true))))
def A43 (x0:KinType):Ann:=r0 1 [1,2] [1] (.reg 1 [] [(2,k86 x0.ego 0 2)] [1,2,15] [1] [!(!(l1In x0.ego 0 2)),!(l1In x0.ego 0 2)] [] [] [0,1,1,1,6] (cn ((!(l1In x0.ego 0 2))||(decide (8<((x0.steps.length:Nat):Int)))) (r0 1 [1,2] [1] (rt [] (C43 false))) (r0 1 [1,2,3] [1] (r0 1 [2,3,19,20,21] [] (lp (D43b1 x0) [] [] [] (D43b1 x0 0 x0.ego) (A43b1 x0))))))
theorem zo1 (x0:KinType) (h0:x0.steps.length≤1048576):FnT Tryz.prog 43 [.agg (zdv false x0)] (C43 (zc6 x0)):=by
 have aux:∀ R,zc6 x0=R→slim (C43 R) (A43 x0) []:=by
  intro R hR
  refine rg trivial ?_
  refine rg ⟨trivial,trivial⟩ ?_
  revert hR;refine cd (fun hc1 hR=>?_) fun hc1 hR=>?_
  ·
    refine rg trivial ?_
    exact congrArg C43 hR
  ·
    refine rg trivial ?_
    refine rg trivial ?_
    revert hR;refine lN (fun i v=>True) zai rfl fun i1 v1 F1 hn1 hI1 hR hK1=>?_
    refine rg trivial ?_
    refine ⟨fun hc2=>?_,fun hc2=>?_⟩
    · have hii1:i1<x0.steps.length:=by have:=of_decide_eq_true hc2;omega
      replace hR:=zbj hR hii1
      refine rg ⟨by (intros;omega),trivial⟩ ?_
      refine rg ⟨trivial,trivial⟩ ?_
      revert hR;refine cd (fun hc3 hR=>?_) fun hc3 hR=>?_
      ·
        refine rg trivial ?_
        exact congrArg C43 hR
      ·
        refine rg ⟨trivial,trivial⟩ ?_
        refine rg ⟨by ( intros;simp only [inR];omega),trivial⟩ ?_
        exact hK1 (l3Sex ((x0.steps.getD i1 default).kind)) hii1 zai hR
    · obtain rfl:i1=x0.steps.length:=by have:=of_decide_eq_false hc2;omega
      replace hR:=zbp hR (Nat.lt_irrefl _)
      refine rg trivial ?_
      exact congrArg C43 hR
 exact Fn.go 33 Tryz.func43 zah zah (by simp [C43,Frs,FrsL]) (A43 x0) zah (aux _ rfl)
def k43 (x0:KinType):Cl:=(hres (C43 (zc6 x0)),k1 (zo1 x0))
theorem zxv {s:Step} {x:Int} (h:zn2 s x=true):(1≤s.kind∧s.kind≤8)∧0≤s.age∧s.age≤2:=by
 unfold zn2 at h
 rw [zdo,zbd,za9,za9] at h
 unfold l1In at h
 simp only [Bool.and_eq_true,decide_eq_true_eq] at h
 omega
theorem z0l {t:KinType} (h:zc6 t=true):∀ k:Nat,k<t.steps.length→(1≤(t.steps.getD k default).kind∧(t.steps.getD k default).kind≤8)∧0≤(t.steps.getD k default).age∧(t.steps.getD k default).age≤2:=by
 unfold zc6 at h
 rw [zdo] at h
 obtain ⟨_,h⟩:=h
 revert h
 refine zb3 (fun i (_:Int)=>∀ k:Nat,k<i→(1≤(t.steps.getD k default).kind∧(t.steps.getD k default).kind≤8)∧0≤(t.steps.getD k default).age∧(t.steps.getD k default).age≤2) (fun (r:Bool)=>r=true→∀ k:Nat,k<t.steps.length→(1≤(t.steps.getD k default).kind∧(t.steps.getD k default).kind≤8)∧0≤(t.steps.getD k default).age∧(t.steps.getD k default).age≤2) (fun k hk=>absurd hk (Nat.not_lt_zero _)) (fun i v next hi hv hn=>?_) (fun v hv _=>hv)
 refine zbm (p:=fun (r:Bool)=>r=true→∀ k:Nat,k<t.steps.length→(1≤(t.steps.getD k default).kind∧(t.steps.getD k default).kind≤8)∧0≤(t.steps.getD k default).age∧(t.steps.getD k default).age≤2) (fun c h=>(by cases h)) (fun c=>hn _ fun k hk=>?_)
 by_cases e:k=i
 ·subst e;exact zxv (by simpa using c)
 ·exact hv k om
end Go.Proofs.YtaageiiodlfeiaaGreat
