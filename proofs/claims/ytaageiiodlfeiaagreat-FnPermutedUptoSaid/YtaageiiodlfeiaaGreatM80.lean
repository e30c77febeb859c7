import Derived.Test.YtaageiiodlfeiaaGreatV33
set_option maxHeartbeats 4000000
set_option linter.unusedSimpArgs false
set_option linter.unusedVariables false
namespace Go.Proofs.YtaageiiodlfeiaaGreat
open Go Go.Lite Go.Proofs
def C16 (R:Dyad):LV×List (Nat×BC):=(.agg [.int .i64 R.num,.int .i64 R.exp],[])
def zbf (x0:Family) (x1:Int) (x2:Int):Dyad:=bif (!(zcm x0 [x1,x2])) then (Dyad.mk 0 0) else (zf8 ((zig (kin.mk x0 (fun _=>none)) x1 x2).1))
def A16 (x0:Family) (x1:Int) (x2:Int):Ann:=r0 1 [1,2,3,6] [3,6] (.reg 1 [] [(3,bsC 11 (cInt .i64) ([x1,x2]:List Int)),(4,k45 x0 [x1,x2])] [1,2,3,6,13] [3,6] [] [] [] [0,4] (cn (!(zcm x0 [x1,x2])) (r0 1 [1,2,3,6] [3,6] (rt [] (C16 (Dyad.mk 0 0)))) (.reg 2 [] [(1002,k48 20 [7,16] (kin.mk x0 (fun _=>none)) x1 x2),(1003,k47 ((zig (kin.mk x0 (fun _=>none)) x1 x2).1))] [6] [6] [] [] [] [0,4] (rt [] (C16 (zf8 ((zig (kin.mk x0 (fun _=>none)) x1 x2).1)))))))
theorem znr (x0:Family) (x1:Int) (x2:Int) (hx:x0.people.length≤1048576) (hu:x0.unions.length≤1048576) (hn:∀ p∈x0.people,p.name.length≤1048576):FnT Tryz.prog 16 [.agg (zbx false x0),.int .i64 x1,.int .i64 x2] (C16 (zbf x0 x1 x2)):=by
 have aux:∀ R,zbf x0 x1 x2=R→slim (C16 R) (A16 x0 x1 x2) []:=by
  intro R hR
  refine rg trivial ?_
  refine rg ⟨trivial,⟨by trivial,by trivial,by trivial,by ((try clear hR);intros;(try simp only [decide_eq_true_eq,decide_eq_false_iff_not,Bool.or_eq_true,Bool.and_eq_true,zbd,za9,zba,Bool.not_eq_true',inR] at *);(repeat' apply And.intro)<;>(simp_all [inR];done))⟩,trivial⟩ ?_
  revert hR;refine cd (fun hc1 hR=>?_) fun hc1 hR=>?_
  ·
    refine rg trivial ?_
    exact congrArg C16 hR
  ·
    refine rg ⟨⟨by (have h3:=(zdz x0 x1 x2).1 zag;exact h3.1),by ((try clear hR);intros;(try simp only [decide_eq_true_eq,decide_eq_false_iff_not,Bool.or_eq_true,Bool.and_eq_true,zbd,za9,zba,Bool.not_eq_true',inR] at *);(repeat' apply And.intro)<;>(have h3:=(zdz x0 x1 x2).1 zag;omega)),by ((try clear hR);intros;(try simp only [decide_eq_true_eq,decide_eq_false_iff_not,Bool.or_eq_true,Bool.and_eq_true,zbd,za9,zba,Bool.not_eq_true',inR] at *);(repeat' apply And.intro)<;>(have h3:=(zdz x0 x1 x2).1 zag;omega)),by (exact SeenOk.nil _)⟩,by (have h3:=(zdz x0 x1 x2).1 zag;have h4:=((zch _).1 h3.1).1;have h5:=zey 100 ⟨x0,fun _=>none⟩ x1 x2 h3.1 h3.2.1 h3.2.2 om (SeenOk.nil _);have h6:=zp4 h3.1 h3.2.1 h3.2.2;have h7:(zig ⟨x0,fun _=>none⟩ x1 x2).1=kn x0 x1 x2:=h5.1;omega),trivial⟩ ?_
    exact congrArg C16 hR
 exact Fn.go 22 Tryz.func16 zah zah (by simp [C16,Frs,FrsL]) (A16 x0 x1 x2) zah (aux _ rfl)
def k16 (x0:Family) (x1:Int) (x2:Int):Cl:=(hres (C16 (zbf x0 x1 x2)),k3 (znr x0 x1 x2))
theorem z1c {x:Family} (hf:za4 x=true) {a b:Int} (ha:0≤a∧a<x.people.length) (hb:0≤b∧b<x.people.length):(zig ⟨x,fun _=>none⟩ a b).1=kn x a b:=by
 have h4:=((zch _).1 hf).1
 have h5:=(zey 100 ⟨x,fun _=>none⟩ a b hf ha hb om (SeenOk.nil _)).1
 unfold zig
 exact h5
def C38 (R:(List Int)×Bool):LV×List (Nat×BC):=(.tup [.own 0,.bool R.2],[(0,.arr 1 R.1.length (rowOf (cInt .i64) R.1))])
def zbs (x0:List Int) (x1:Int):(List Int)×Bool:=loopN (fun i1 (v1:(List Int)) next=>next (v1.set i1 (-1))) (fun (v1:(List Int))=>bif (!decide (((x0.length:Nat):Int)=x1)) then (([]:List Int),false) else (loopN (fun i2 (v2:(List Int)) next=>bif (((decide ((x0.getD i2 default)<0))||(decide (x1≤(x0.getD i2 default))))||(decide (0≤(v2.getD ((x0.getD i2 default).toNat) default)))) then (([]:List Int),false) else (next (v2.set ((x0.getD i2 default).toNat) ((i2:Nat):Int)))) (fun (v2:(List Int))=>(v2,true)) x0.length 0 v1)) x1.toNat 0 (List.replicate x1.toNat (default:Int))
def D38b1 (x0:List Int) (x1:Int) (i1:Nat) (v1:(List Int)):Dl:=⟨[(14,.int .i64 ((i1:Nat):Int)),(6,.own 20006)],[(20006,.arr 1 x1.toNat (rowOf (cInt .i64) v1))]⟩
def D38b2 (x0:List Int) (x1:Int) (i1:Nat) (v1:(List Int)) (i2:Nat) (v2:(List Int)):Dl:=⟨[(27,.int .i64 ((i2:Nat):Int)),(6,.own 30006)],[(30006,.arr 1 x1.toNat (rowOf (cInt .i64) v2))]⟩
def A38b2 (x0:List Int) (x1:Int) (i1:Nat) (v1:(List Int)) (i2:Nat) (v2:(List Int)):Ann:=r0 1 [1,4,5,6,25,26,27,28] [30006] (cn (decide (((i2:Nat):Int)<((x0.length:Nat):Int))) (r1 1 [1,4,5,6,8,9,25,26,27] [30006] [pf (0≤(((i2:Nat):Int):Int)∧(((i2:Nat):Int):Int)<((x0.length:Nat):Int))] [0] (.reg 1 [] [] [1,4,5,6,8,9,25,26,27,45] [30006] [!(decide ((x0.getD i2 default)<0)),decide ((x0.getD i2 default)<0),!((decide ((x0.getD i2 default)<0))||(decide (x1≤(x0.getD i2 default)))),(decide ((x0.getD i2 default)<0))||(decide (x1≤(x0.getD i2 default)))] [gt (!((decide ((x0.getD i2 default)<0))||(decide (x1≤(x0.getD i2 default))))) (pf (0≤((x0.getD i2 default):Int)∧((x0.getD i2 default):Int)<((x1.toNat:Nat):Int)))] [] [1,1,6,9,9,0,9,9,14] (cn (((decide ((x0.getD i2 default)<0))||(decide (x1≤(x0.getD i2 default))))||(decide (0≤(v2.getD ((x0.getD i2 default).toNat) default)))) (r0 1 [1,4,5,6,8,9,25,26,27] [30006] (rt [(0,none)] (C38 (([]:List Int),false)))) (.reg 1 [] [(4,stC 30006 (cInt .i64) x1.toNat v2 ((x0.getD i2 default).toNat) ((i2:Nat):Int))] [1,4,5,6,25,26,27] [30006] [] [pf (0≤((x0.getD i2 default):Int)∧((x0.getD i2 default):Int)<((x1.toNat:Nat):Int))] [] [0,4] (r1 1 [1,4,5,6,25,26,27] [30006] [pf (inR .i64 (((i2:Nat):Int)+1))] [0] (.next 0 [(30006,some 30006)] (D38b2 x0 x1 i1 v1 (i2+1) (v2.set ((x0.getD i2 default).toNat) ((i2:Nat):Int))))))))) (r0 1 [4,5] [30006] (.co false 30006 v2.length (rowOf (cInt .i64) v2) [lnP (rowOf (cInt .i64) v2) x1.toNat v2.length] [] 0 (rt [(0,some 30006)] (C38 (v2,true))))))
def A38b1 (x0:List Int) (x1:Int) (i1:Nat) (v1:(List Int)):Ann:=r0 1 [0,1,4,5,6,13,14,15] [20006] (cn (decide (((i1:Nat):Int)<((x1.toNat:Nat):Int))) (r0 1 [0,1,4,5,6,7,13,14] [20006] (.reg 1 [] [(3,stC 20006 (cInt .i64) x1.toNat v1 i1 (-1))] [0,1,4,5,6,13,14] [20006] [] [pf (0≤(((i1:Nat):Int):Int)∧(((i1:Nat):Int):Int)<((x1.toNat:Nat):Int))] [] [0,4] (r1 1 [0,1,4,5,6,13,14] [20006] [pf (inR .i64 (((i1:Nat):Int)+1))] [0] (.next 0 [(20006,some 20006)] (D38b1 x0 x1 (i1+1) (v1.set i1 (-1))))))) (r0 1 [0,1,4,5,6,24] [20006] (cn (!decide (((x0.length:Nat):Int)=x1)) (r0 1 [0,1,4,5,6] [20006] (rt [(0,none)] (C38 (([]:List Int),false)))) (r0 1 [1,4,5,6,25,26,27] [20006] (lp (D38b2 x0 x1 i1 v1) [] [20006] [(30006,some 20006)] (D38b2 x0 x1 i1 v1 0 v1) (A38b2 x0 x1 i1 v1))))))
def A38 (x0:List Int) (x1:Int):Ann:=.reg 2 [] [(1001,msC 11 (cInt .i64) 8 x1 x1 x1.toNat (default:Int) (rfl))] [0,1,4,5,6] [11] [] [] [] [0] (r0 1 [0,1,4,5,6,13,14] [11] (lp (D38b1 x0 x1) [] [11] [(20006,some 11)] (D38b1 x0 x1 0 (List.replicate x1.toNat (default:Int))) (A38b1 x0 x1)))
theorem zkw (x0:List Int) (x1:Int) (hx:x0.length≤1048576) (hn:0≤x1∧x1≤1048576):FnT Tryz.prog 38 [.ro false 1 x0.length (rowOf (cInt .i64) x0),.int .i64 x1] (C38 (zbs x0 x1)):=by
 have aux:∀ R,zbs x0 x1=R→slim (C38 R) (A38 x0 x1) []:=by
  intro R hR
  refine rg ⟨by (intros;omega),trivial⟩ ?_
  refine rg trivial ?_
  revert hR;refine lN (fun i v=>v.length=x1.toNat) (by (simp only [List.length_replicate])) rfl fun i1 v1 F1 hn1 hI1 hR hK1=>?_
  refine rg trivial ?_
  refine ⟨fun hc1=>?_,fun hc1=>?_⟩
  ·have hii1:i1<x1.toNat:=by have:=of_decide_eq_true hc1;omega
   replace hR:=zbj hR hii1
   refine rg trivial ?_
   refine rg ⟨by (intros;omega),by (intros;omega),trivial⟩ ?_
   refine rg ⟨by ( intros;simp only [inR];omega),trivial⟩ ?_
   exact hK1 (v1.set i1 (-1)) hii1 zao hR
  ·obtain rfl:i1=x1.toNat:=by have:=of_decide_eq_false hc1;omega
   replace hR:=zbp hR (Nat.lt_irrefl _)
   refine rg trivial ?_
   revert hR;refine cd (fun hc2 hR=>?_) fun hc2 hR=>?_
   ·
     refine rg trivial ?_
     exact congrArg C38 hR
   ·
     refine rg trivial ?_
     revert hR;refine lN (fun i v=>v.length=x1.toNat) zai rfl fun i2 v2 F2 hn2 hI2 hR hK2=>?_
     refine rg trivial ?_
     refine ⟨fun hc3=>?_,fun hc3=>?_⟩
     · have hii2:i2<x0.length:=by have:=of_decide_eq_true hc3;omega
       replace hR:=zbj hR hii2
       refine rg ⟨by (intros;omega),trivial⟩ ?_
       refine rg ⟨by (simp only [decide_eq_true_eq,decide_eq_false_iff_not,Bool.or_eq_true,Bool.and_eq_true,zbd,za9,zba,Bool.not_eq_true'] at *;omega),trivial⟩ ?_
       revert hR;refine cd (fun hc4 hR=>?_) fun hc4 hR=>?_
       ·
         refine rg trivial ?_
         exact congrArg C38 hR
       ·
         refine rg ⟨by (simp only [decide_eq_true_eq,decide_eq_false_iff_not,Bool.or_eq_true,Bool.and_eq_true,zbd,za9,zba,Bool.not_eq_true'] at *;omega),by (simp only [decide_eq_true_eq,decide_eq_false_iff_not,Bool.or_eq_true,Bool.and_eq_true,zbd,za9,zba,Bool.not_eq_true'] at *;omega),trivial⟩ ?_
         refine rg ⟨by ( intros;simp only [inR];omega),trivial⟩ ?_
         exact hK2 (v2.set ((x0.getD i2 default).toNat) ((i2:Nat):Int)) hii2 zao hR
     · obtain rfl:i2=x0.length:=by have:=of_decide_eq_false hc3;omega
       replace hR:=zbp hR (Nat.lt_irrefl _)
       refine rg trivial ?_
       refine og za2 ?_
       exact congrArg C38 hR
 exact Fn.go 52 Tryz.func38 zah zah (by simp [C38,Frs,FrsL,FrsB,rowOf,cInt,cBool,cStr,cSl,zce,zbq,zb4,zbx,cDyad]) (A38 x0 x1) zah (aux _ rfl)
def k38 (x0:List Int) (x1:Int):Cl:=(hres (C38 (zbs x0 x1)),k2 (zkw x0 x1))
def zil (x0:List Int):Bool:=(zbs x0 ((x0.length:Nat):Int)).2
def C36 (R:Bool):LV×List (Nat×BC):=(.bool R,[])
def ze6 (x0:List Int):Bool:=loopN (fun i1 (v1:(List Bool)) next=>bif (((decide ((x0.getD i1 default)<0))||(decide (((x0.length:Nat):Int)≤(x0.getD i1 default))))||(v1.getD ((x0.getD i1 default).toNat) default)) then false else (next (v1.set ((x0.getD i1 default).toNat) true))) (fun (v1:(List Bool))=>true) x0.length 0 (List.replicate x0.length (default:Bool))
def D36b1 (x0:List Int) (i1:Nat) (v1:(List Bool)):Dl:=⟨[(11,.int .i64 ((i1:Nat):Int)),(3,.own 20003)],[(20003,.arr 1 x0.length (rowOf (cBool) v1))]⟩
def A36b1 (x0:List Int) (i1:Nat) (v1:(List Bool)):Ann:=r0 1 [0,2,3,9,10,11,12] [20003] (cn (decide (((i1:Nat):Int)<((x0.length:Nat):Int))) (r1 1 [0,2,3,5,9,10,11] [20003] [pf (0≤(((i1:Nat):Int):Int)∧(((i1:Nat):Int):Int)<((x0.length:Nat):Int))] [0] (.reg 1 [] [] [0,2,3,5,9,10,11,28] [20003] [!(decide ((x0.getD i1 default)<0)),decide ((x0.getD i1 default)<0),!((decide ((x0.getD i1 default)<0))||(decide (((x0.length:Nat):Int)≤(x0.getD i1 default)))),(decide ((x0.getD i1 default)<0))||(decide (((x0.length:Nat):Int)≤(x0.getD i1 default)))] [gt (!((decide ((x0.getD i1 default)<0))||(decide (((x0.length:Nat):Int)≤(x0.getD i1 default))))) (pf (0≤((x0.getD i1 default):Int)∧((x0.getD i1 default):Int)<((x0.length:Nat):Int)))] [] [1,1,1,6,9,9,0,9,14] (cn (((decide ((x0.getD i1 default)<0))||(decide (((x0.length:Nat):Int)≤(x0.getD i1 default))))||(v1.getD ((x0.getD i1 default).toNat) default)) (r0 1 [0,2,3,5,9,10,11] [20003] (rt [] (C36 false))) (.reg 1 [] [(3,stC 20003 (cBool) x0.length v1 ((x0.getD i1 default).toNat) true)] [0,2,3,9,10,11] [20003] [] [pf (0≤((x0.getD i1 default):Int)∧((x0.getD i1 default):Int)<((x0.length:Nat):Int))] [] [0,4] (r1 1 [0,2,3,9,10,11] [20003] [pf (inR .i64 (((i1:Nat):Int)+1))] [0] (.next 0 [(20003,some 20003)] (D36b1 x0 (i1+1) (v1.set ((x0.getD i1 default).toNat) true)))))))) (r0 1 [2] [] (rt [] (C36 true))))
def A36 (x0:List Int):Ann:=.reg 2 [] [(1002,msC 8 (cBool) 1 ((x0.length:Nat):Int) ((x0.length:Nat):Int) x0.length (default:Bool) (rfl))] [0,2,3] [8] [] [] [] [0] (r0 1 [0,2,3,9,10,11] [8] (lp (D36b1 x0) [] [8] [(20003,some 8)] (D36b1 x0 0 (List.replicate x0.length (default:Bool))) (A36b1 x0)))
theorem zh5 (x0:List Int) (hx:x0.length≤1048576):FnT Tryz.prog 36 [.ro false 1 x0.length (rowOf (cInt .i64) x0)] (C36 (ze6 x0)):=by
 have aux:∀ R,ze6 x0=R→slim (C36 R) (A36 x0) []:=by
  intro R hR
  refine rg ⟨by (intros;omega),trivial⟩ ?_
  refine rg trivial ?_
  revert hR;refine lN (fun i v=>v.length=x0.length) (by ((try clear hR);intros;(try simp only [decide_eq_true_eq,decide_eq_false_iff_not,Bool.or_eq_true,Bool.and_eq_true,zbd,za9,zba,Bool.not_eq_true',inR] at *);(repeat' apply And.intro)<;>(simp_all [inR];done))) rfl fun i1 v1 F1 hn1 hI1 hR hK1=>?_
  refine rg trivial ?_
  refine ⟨fun hc1=>?_,fun hc1=>?_⟩
  ·have hii1:i1<x0.length:=by have:=of_decide_eq_true hc1;omega
   replace hR:=zbj hR hii1
   refine rg ⟨by (intros;omega),trivial⟩ ?_
   refine rg ⟨by (simp only [decide_eq_true_eq,decide_eq_false_iff_not,Bool.or_eq_true,Bool.and_eq_true,zbd,za9,zba,Bool.not_eq_true'] at *;omega),trivial⟩ ?_
   revert hR;refine cd (fun hc2 hR=>?_) fun hc2 hR=>?_
   ·
     refine rg trivial ?_
     exact congrArg C36 hR
   ·
     refine rg ⟨by (simp only [decide_eq_true_eq,decide_eq_false_iff_not,Bool.or_eq_true,Bool.and_eq_true,zbd,za9,zba,Bool.not_eq_true'] at *;omega),by (simp only [decide_eq_true_eq,decide_eq_false_iff_not,Bool.or_eq_true,Bool.and_eq_true,zbd,za9,zba,Bool.not_eq_true'] at *;omega),trivial⟩ ?_
     refine rg ⟨by ( intros;simp only [inR];omega),trivial⟩ ?_
     exact hK1 (v1.set ((x0.getD i1 default).toNat) true) hii1 zao hR
  ·obtain rfl:i1=x0.length:=by have:=of_decide_eq_false hc1;omega
   replace hR:=zbp hR (Nat.lt_irrefl _)
   refine rg trivial ?_
   exact congrArg C36 hR
 exact Fn.go 33 Tryz.func36 zah zah (by simp [C36,Frs,FrsL]) (A36 x0) zah (aux _ rfl)
def k36 (x0:List Int):Cl:=(hres (C36 (ze6 x0)),k1 (zh5 x0))
theorem zwd {α β:Type} (a d:α) (k:List α→β) (n:Nat):loopN (fun i (v:List α) next=>next (v.set i a)) k n 0 (List.replicate n d)=k (List.replicate n a):=by
 have:∀ (m i:Nat) (l:List α),i+m=n→l.length=n→(∀ j,j<i→l[j]?=some a)→loopN (fun i (v:List α) next=>next (v.set i a)) k m i l=k (List.replicate n a):=by
  intro m
  induction m with
  | zero =>
   intro i l h1 h2 h3
   simp only [loopN]
   congr 1
   apply List.ext_getElem?
   intro j
   by_cases hj:j<n
   ·rw [h3 j om,List.getElem?_replicate,if_pos hj]
   ·rw [List.getElem?_eq_none om,List.getElem?_eq_none (by simp;omega)]
  | succ m ih =>
   intro i l h1 h2 h3
   simp only [loopN]
   refine ih (i+1) _ om (by simp [h2]) fun j hj=>?_
   by_cases e:j=i
   ·subst e;rw [List.getElem?_set_self om]
   ·rw [List.getElem?_set_ne (Ne.symm e)];exact h3 j om
 exact this n 0 _ om zaj fun j hj=>absurd hj (Nat.not_lt_zero _)
theorem z0w (p:List Int):ze6 p=zil p:=by
 unfold ze6 zil zbs
 rw [show ((p.length:Nat):Int).toNat=p.length from Int.toNat_natCast _,zwd]
 simp only [decide_true,Bool.not_true,cond_false]
 refine zd1 (fun i (v:List Bool) (u:List Int)=>v.length=p.length∧u.length=p.length∧∀ j,j<p.length→v.getD j default=decide (0≤u.getD j default)) (fun (a:Bool) (b:List Int×Bool)=>a=b.2) ⟨by simp,by simp,fun j hj=>?_⟩ (fun i v u n1 n2 hi hr hn=>?_) (fun v u hr=>rfl)
 ·rw [zfd,zfd,if_pos hj,if_pos hj];rfl
 ·obtain ⟨h1,h2,h3⟩:=hr
  cases c1:decide (p.getD i default<0)
  ·cases c2:decide (((p.length:Nat):Int)≤p.getD i default)
   ·have c1:=of_decide_eq_false c1
    have c2:=of_decide_eq_false c2
    have h4:=h3 (p.getD i default).toNat om
    rw [h4]
    cases c3:decide (0≤u.getD (p.getD i default).toNat default)
    ·simp only [Bool.or_false,cond_false]
     refine hn _ _ ⟨by simp [h1],by simp [h2],fun j hj=>?_⟩
     rw [zcf,zcf]
     by_cases e:j=(p.getD i default).toNat
     ·rw [if_pos ⟨e,om⟩,if_pos ⟨e,om⟩]
      simp
     ·rw [if_neg om,if_neg om];exact h3 j hj
    ·simp
   ·simp
  ·simp
end Go.Proofs.YtaageiiodlfeiaaGreat
