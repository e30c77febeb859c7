import Derived.Test.YtaageiiodlfeiaaGreatV101
set_option maxHeartbeats 4000000
set_option linter.unusedSimpArgs false
set_option linter.unusedVariables false
namespace Go.Proofs.YtaageiiodlfeiaaGreat
open Go Go.Lite Go.Proofs
theorem zq7 {u:Union} (p:Int) (hm:0≤u.man) (hw:0≤u.woman):other u p=(bif (zcu u p).2 then (zcu u p).1 else -1)∧decide (other u p<0)=!(zcu u p).2∧decide (0≤other u p)=(zcu u p).2:=by
 unfold other zcu
 by_cases h1:u.man=p
 ·rw [decide_eq_true h1.symm,decide_eq_true h1]
  simp only [cond_true]
  exact ⟨trivial,by rw [decide_eq_false om];rfl,decide_eq_true hw⟩
 ·rw [decide_eq_false (Ne.symm h1),decide_eq_false h1]
  simp only [cond_false]
  by_cases h2:u.woman=p
  ·rw [decide_eq_true h2.symm,decide_eq_true h2]
   simp only [cond_true]
   exact ⟨trivial,by rw [decide_eq_false om];rfl,decide_eq_true hm⟩
  ·rw [decide_eq_false (Ne.symm h2),decide_eq_false h2]
   simp
theorem zwh {x:Family} (hf:za4 x=true) {k:Nat} (hk:k<x.unions.length) (p:Int):0≤(zcu (x.unions.getD k default) p).1∧(zcu (x.unions.getD k default) p).1<x.people.length:=by
 have hu:=fam_u hf hk
 have h1:=hu.man;have h2:=hu.woman
 unfold zcu
 exact zbm (p:=fun (r:Int×Bool)=>0≤r.1∧r.1<x.people.length) (fun _=>h2) (fun _=>h1)
theorem z08 {x:Family} (hf:za4 x=true) {k:Nat} (hk:k<x.unions.length):(zdp x (x.unions.getD k default)).2=(l1End x (x.unions.getD k default)).2∧((l1End x (x.unions.getD k default)).2=true→(zdp x (x.unions.getD k default)).1=(l1End x (x.unions.getD k default)).1):=by
 have hu:=fam_u hf hk
 have h1:=hu.man;have h2:=hu.woman;have h3:=hu.to;have h4:=hu.from0
 have p1:=fam_p hf (k:=(x.unions.getD k default).man.toNat) om
 have p2:=fam_p hf (k:=(x.unions.getD k default).woman.toNat) om
 have b1:=p1.born;have b2:=p2.born;have d1:=p1.died;have d2:=p2.died
 unfold zdp l1End
 generalize x.unions.getD k default=u at *
 generalize x.people.getD u.man.toNat default=a at *
 generalize x.people.getD u.woman.toNat default=b at *
 by_cases e1:u.to=-1
 ·rw [decide_eq_true e1,decide_eq_false (show ¬ 0≤u.to by omega)]
  simp only [Bool.not_true,cond_false]
  by_cases e2:a.died=-1
  ·rw [decide_eq_true e2,decide_eq_true (show a.died<0 by omega)]
   by_cases e3:b.died=-1
   ·rw [decide_eq_true (show b.died<0 by omega),e3];simp
   ·rw [decide_eq_false (show ¬ b.died<0 by omega),decide_eq_false e3];simp;omega
  ·rw [decide_eq_false e2,decide_eq_false (show ¬ a.died<0 by omega)]
   by_cases e3:b.died=-1
   ·rw [decide_eq_true e3,decide_eq_true (show b.died<0 by omega),decide_eq_false (show ¬ 0≤b.died by omega)];simp
   ·rw [decide_eq_false e3,decide_eq_false (show ¬ b.died<0 by omega),decide_eq_true (show 0≤b.died by omega)]
    by_cases e4:b.died<a.died
    ·rw [decide_eq_true e4];simp;omega
    ·rw [decide_eq_false e4];simp;omega
 ·rw [decide_eq_false e1,decide_eq_true (show 0≤u.to by omega)];simp
theorem zpy {x:Family} (hf:za4 x=true) {p:Int} (hp:0≤p∧p<x.people.length) (y:Int):zdt x p y=ze3 x p y:=by
 unfold zdt ze3
 rw [(zed x p).2 ⟨hp,hf⟩]
 simp only [Bool.not_true,cond_false]
 refine zd1 (fun i v u=>v=u) Eq rfl (fun i v u n1 n2 hi hr hn=>?_) (fun v u hr=>hr)
 have hu:=fam_u hf hi
 obtain ⟨o1,o2,o3⟩:=zq7 (u:=x.unions.getD i default) p hu.man.1 hu.woman.1
 obtain ⟨q1,q2⟩:=z08 hf hi
 rw [o2,o1,q1]
 cases (zcu (x.unions.getD i default) p).2
 ·simp only [Bool.not_false,Bool.true_or,cond_true,Bool.false_and,cond_false];exact hn _ _ hr
 ·simp only [Bool.not_true,Bool.false_or,cond_true,Bool.true_and]
  by_cases h1:y<(x.unions.getD i default).from0
  ·rw [decide_eq_true h1,decide_eq_false (show ¬ (x.unions.getD i default).from0≤y by omega)]
   simp only [cond_true,Bool.false_and,cond_false];exact hn _ _ hr
  ·rw [decide_eq_false h1,decide_eq_true (show (x.unions.getD i default).from0≤y by omega)]
   simp only [cond_false,Bool.true_and]
   cases h2:(l1End x (x.unions.getD i default)).2
   ·simp only [Bool.not_false,Bool.true_or,cond_true];exact hn _ _ (by rw [hr])
   ·rw [q2 h2]
    simp only [Bool.not_true,Bool.false_or]
    cases decide (y<(l1End x (x.unions.getD i default)).1)
    ·exact hn _ _ hr
    ·exact hn _ _ (by rw [hr])
theorem zis (x:Family) (p s:Int) (hs:s=1∨s=2):zct x p s=zha x p s:=by
 unfold zct zha up
 congr 1
 funext v next
 rcases hs with rfl | rfl
 ·simp only [decide_true,cond_true,show decide ((1:Int)=2)=false from rfl,cond_false]
  by_cases h:(x.people.getD v.toNat default).father<0
  ·rw [decide_eq_true h,decide_eq_false om];rfl
  ·rw [decide_eq_false h,decide_eq_true om];rfl
 ·simp only [decide_true,cond_true,show decide ((2:Int)=1)=false from rfl,cond_false]
  by_cases h:(x.people.getD v.toNat default).mother<0
  ·rw [decide_eq_true h,decide_eq_false om];rfl
  ·rw [decide_eq_false h,decide_eq_true om];rfl
theorem zok {x:Family} (hf:za4 x=true) {a b:Int} (ha:0≤a∧a<x.people.length) (hb:0≤b∧b<x.people.length) (d:Int):zer x a b d=zho x a b d:=by
 unfold zer zho zjr
 rw [znz x a b hf ha hb]
theorem ztl {x:Family} (hf:za4 x=true) {q:Int} (hq:0≤q∧q<x.people.length) (l:Law) (p y:Int):zdl x l p q y=zhp x p q y l.affinity:=by
 unfold zdl zhp
 refine zd1 (fun i v u=>True) Eq trivial (fun i v u n1 n2 hi hr hn=>?_) (fun v u hr=>rfl)
 have hu:=fam_u hf hi
 obtain ⟨o1,o2,o3⟩:=zq7 (u:=x.unions.getD i default) p hu.man.1 hu.woman.1
 rw [o3,o1]
 cases h:(zcu (x.unions.getD i default) p).2
 ·simp only [Bool.and_false,Bool.false_and,cond_false];exact hn _ _ trivial
 ·simp only [cond_true,Bool.and_true,Bool.true_and]
  rw [zok hf (zwh hf hi p) hq,Bool.and_comm (decide ((x.unions.getD i default).from0≤y)),hn () () trivial]
def zp1 (x0:Family) (x1:Law) (x2:Int) (x3:Int) (x4:Int):(List Bool):=loopN (fun i1 (v1:(List Bool)) next=>next (v1.set 12 ((v1.getD 12 default)||(((zcu (x0.unions.getD i1 default) x2).2)&&(decide (((zcu (x0.unions.getD i1 default) x2).1)=x3)))))) (fun (v1:(List Bool))=>v1) x0.unions.length 0 ((((((((((((List.replicate 13 (default:Bool)).set 1 ((!decide (((x0.people.getD x2.toNat default).sex)=1))||(!decide (((x0.people.getD x3.toNat default).sex)=2)))).set 2 ((zxt (x0.people.getD x2.toNat default) x4)||(zxt (x0.people.getD x3.toNat default) x4))).set 3 ((decide (x4<(((x0.people.getD x2.toNat default).born)+x1.age)))||(decide (x4<(((x0.people.getD x3.toNat default).born)+x1.age))))).set 4 (decide (x1.wives≤(((ze3 x0 x2 x4).length:Nat):Int)))).set 5 (decide (x1.husbands≤(((ze3 x0 x3 x4).length:Nat):Int)))).set 6 ((decide (0≤((l8Up x0 x2).getD x3.toNat default)))||(decide (0≤((l8Up x0 x3).getD x2.toNat default))))).set 7 ((!decide (x1.degree=0))&&(zho x0 x2 x3 x1.degree))).set 8 (((!decide (x1.canon=0))&&((zgb x0 x2 x3).2))&&(decide (((zgb x0 x2 x3).1)≤x1.canon)))).set 9 (x1.patriline&&(decide ((zha x0 x2 1)=(zha x0 x3 1))))).set 10 (x1.matriline&&(decide ((zha x0 x2 2)=(zha x0 x3 2))))).set 11 ((!decide (x1.affinity=0))&&((zhp x0 x2 x3 x4 x1.affinity)||(zhp x0 x3 x2 x4 x1.affinity))))
def C53 (R:(List Int)):LV×List (Nat×BC):=(.own 0,[(0,.arr 1 R.length (rowOf (cInt .i64) R))])
def zdy (x0:Family) (x1:Law) (x2:Int) (x3:Int) (x4:Int):(List Int):=loopN (fun i1 (v1:Bool) next=>next (v1||(decide ((other (x0.unions.getD i1 default) x2)=x3)))) (fun (v1:Bool)=>loopN (fun i2 (v2:(List Int)) next=>bif ([false,(!decide (((x0.people.getD x2.toNat default).sex)=1))||(!decide (((x0.people.getD x3.toNat default).sex)=2)),(zc9 (x0.people.getD x2.toNat default) x4)||(zc9 (x0.people.getD x3.toNat default) x4),(decide (x4<(((x0.people.getD x2.toNat default).born)+x1.age)))||(decide (x4<(((x0.people.getD x3.toNat default).born)+x1.age))),decide (x1.wives≤(((zdt x0 x2 x4).length:Nat):Int)),decide (x1.husbands≤(((zdt x0 x3 x4).length:Nat):Int)),((decide (x2=x3))||(zcp x0 x2 x3))||(zcp x0 x3 x2),(!decide (x1.degree=0))&&(zer x0 x2 x3 x1.degree),((!decide (x1.canon=0))&&((zck x0 x2 x3).2))&&(decide (((zck x0 x2 x3).1)≤x1.canon)),x1.patriline&&(decide ((zct x0 x2 1)=(zct x0 x3 1))),x1.matriline&&(decide ((zct x0 x2 2)=(zct x0 x3 2))),(!decide (x1.affinity=0))&&((zdl x0 x1 x2 x3 x4)||(zdl x0 x1 x3 x2 x4)),v1].getD i2 false) then (next (v2++[((i2:Nat):Int)])) else (next v2)) (fun (v2:(List Int))=>v2) 13 0 ([]:List Int)) x0.unions.length 0 false
def D53b1 (x0:Family) (x1:Law) (x2:Int) (x3:Int) (x4:Int) (i1:Nat) (v1:Bool):Dl:=⟨[(42,.int .i64 ((i1:Nat):Int)),(15,.bool v1)],[]⟩
def D53b2 (x0:Family) (x1:Law) (x2:Int) (x3:Int) (x4:Int) (i1:Nat) (v1:Bool) (i2:Nat) (v2:(List Int)):Dl:=⟨[(185,.int .i64 ((i2:Nat):Int)),(19,.own 20019)],[(20019,.arr 1 v2.length (rowOf (cInt .i64) v2))]⟩
def A53b2 (x0:Family) (x1:Law) (x2:Int) (x3:Int) (x4:Int) (i1:Nat) (v1:Bool) (i2:Nat) (v2:(List Int)):Ann:=r0 1 [10,19,184,185,186] [20019] (cn (decide (((i2:Nat):Int)<13)) (r1 2 [10,19,20,184,185,189] [20019] [pf (0≤(((i2:Nat):Int):Int)∧(((i2:Nat):Int):Int)<((13:Nat):Int))] [0] (cn ([false,(!decide (((x0.people.getD x2.toNat default).sex)=1))||(!decide (((x0.people.getD x3.toNat default).sex)=2)),(zc9 (x0.people.getD x2.toNat default) x4)||(zc9 (x0.people.getD x3.toNat default) x4),(decide (x4<(((x0.people.getD x2.toNat default).born)+x1.age)))||(decide (x4<(((x0.people.getD x3.toNat default).born)+x1.age))),decide (x1.wives≤(((zdt x0 x2 x4).length:Nat):Int)),decide (x1.husbands≤(((zdt x0 x3 x4).length:Nat):Int)),((decide (x2=x3))||(zcp x0 x2 x3))||(zcp x0 x3 x2),(!decide (x1.degree=0))&&(zer x0 x2 x3 x1.degree),((!decide (x1.canon=0))&&((zck x0 x2 x3).2))&&(decide (((zck x0 x2 x3).1)≤x1.canon)),x1.patriline&&(decide ((zct x0 x2 1)=(zct x0 x3 1))),x1.matriline&&(decide ((zct x0 x2 2)=(zct x0 x3 2))),(!decide (x1.affinity=0))&&((zdl x0 x1 x2 x3 x4)||(zdl x0 x1 x3 x2 x4)),v1].getD i2 false) (.reg 1 [] [(2,bsC 192 (cInt .i64) ([((i2:Nat):Int)]:List Int)),(3,ap1 193 (cInt .i64) 8 v2 ((i2:Nat):Int))] [10,19,184,185] [193] [] [] [] [0,4] (r1 1 [10,19,184,185] [193] [pf (inR .i64 (((i2:Nat):Int)+1))] [0] (.next 0 [(20019,some 193)] (D53b2 x0 x1 x2 x3 x4 i1 v1 (i2+1) (v2++[((i2:Nat):Int)]))))) (r1 1 [10,19,184,185] [20019] [pf (inR .i64 (((i2:Nat):Int)+1))] [0] (.next 0 [(20019,some 20019)] (D53b2 x0 x1 x2 x3 x4 i1 v1 (i2+1) v2))))) (r0 1 [10] [20019] (rt [(0,some 20019)] (C53 v2))))
def A53b1 (x0:Family) (x1:Law) (x2:Int) (x3:Int) (x4:Int) (i1:Nat) (v1:Bool):Ann:=r0 1 [2,3,4,5,6,10,11,12,13,14,15,40,41,42,43] [5,6,11,12] (cn (decide (((i1:Nat):Int)<((x0.unions.length:Nat):Int))) (r1 1 [2,3,4,5,6,10,11,12,13,14,15,17,40,41,42] [5,6,11,12,17] [pf (0≤(((i1:Nat):Int):Int)∧(((i1:Nat):Int):Int)<((x0.unions.length:Nat):Int))] [0] (.reg 1 [] [(4,cg (!v1) (k98 (x0.unions.getD i1 default) x2))] [2,3,4,5,6,10,11,12,13,14,15,40,41,42] [5,6,11,12] [!v1,v1] [] [] [1,1,0,1,1,6] (r1 1 [2,3,4,5,6,10,11,12,13,14,15,40,41,42] [5,6,11,12] [pf (inR .i64 (((i1:Nat):Int)+1))] [0] (.next 0 [] (D53b1 x0 x1 x2 x3 x4 (i1+1) (v1||(decide ((other (x0.unions.getD i1 default) x2)=x3)))))))) (.reg 2 [] [(10,k99 (x0.people.getD x2.toNat default) x4),(14,cg (!(zc9 (x0.people.getD x2.toNat default) x4)) (k99 (x0.people.getD x3.toNat default) x4)),(35,k100 x0 x2 x4),(43,k100 x0 x3 x4),(55,cg (!(decide (x2=x3))) (k101 x0 x2 x3)),(61,cg (!((decide (x2=x3))||(zcp x0 x2 x3))) (k101 x0 x3 x2)),(72,cg (!decide (x1.degree=0)) (k102 x0 x2 x3 x1.degree)),(91,cg x1.patriline (k55 x0 x2 1)),(94,cg x1.patriline (k55 x0 x3 1)),(102,cg x1.matriline (k55 x0 x2 2)),(105,cg x1.matriline (k55 x0 x3 2)),(117,cg (!decide (x1.affinity=0)) (k103 x0 x1 x2 x3 x4)),(124,cg ((!decide (x1.affinity=0))&&(!(zdl x0 x1 x2 x3 x4))) (k103 x0 x1 x3 x2 x4))] [10,18,19] [18] [!(!decide (((x0.people.getD x2.toNat default).sex)=1)),!decide (((x0.people.getD x2.toNat default).sex)=1),!(zc9 (x0.people.getD x2.toNat default) x4),zc9 (x0.people.getD x2.toNat default) x4,!(decide (x4<(((x0.people.getD x2.toNat default).born)+x1.age))),decide (x4<(((x0.people.getD x2.toNat default).born)+x1.age)),!(decide (x2=x3)),decide (x2=x3),!((decide (x2=x3))||(zcp x0 x2 x3)),(decide (x2=x3))||(zcp x0 x2 x3),!decide (x1.degree=0),!decide (x1.canon=0),(!decide (x1.canon=0))&&((zck x0 x2 x3).2),x1.patriline,x1.matriline,!decide (x1.affinity=0),(!decide (x1.affinity=0))&&(!(zdl x0 x1 x2 x3 x4))] [pf (inR .i64 (((x0.people.getD x2.toNat default).born)+x1.age)),gt (!(decide (x4<(((x0.people.getD x2.toNat default).born)+x1.age)))) (pf (inR .i64 (((x0.people.getD x3.toNat default).born)+x1.age))),gt (!decide (x1.affinity=0)) (gf (zdl x0 x1 x2 x3 x4) (pf (((!decide (x1.affinity=0))&&(!(zdl x0 x1 x2 x3 x4)))=true)))] [] [1,1,6,12,9,9,16,14,0,17,17,17,17,4,17,17,22,20,24,25,25,25,28,30,33,33,33,32,38,41,41,41,41,41,36,41,45,49,49,49,49,53,53,40,53,53,44,53,53,53,57,57,48,57,57,52,57,57,57,61,61,61,61,61,56,61,65,65,65,65,65,60,61,8,61] (r0 1 [10,19,184,185] [] (lp (D53b2 x0 x1 x2 x3 x4 i1 v1) [] [] [(20019,none)] (D53b2 x0 x1 x2 x3 x4 i1 v1 0 ([]:List Int)) (A53b2 x0 x1 x2 x3 x4 i1 v1)))))
def A53 (x0:Family) (x1:Law) (x2:Int) (x3:Int) (x4:Int):Ann:=.reg 4 [] [(2003,k97 x0 x2 x3)] [2,3,4,5,6,10,11,12,13,14,15] [5,6,11,12] [] [pf (0≤(x2:Int)∧(x2:Int)<((x0.people.length:Nat):Int)),pf (0≤(x3:Int)∧(x3:Int)<((x0.people.length:Nat):Int))] [] [0,4,8] (r0 1 [2,3,4,5,6,10,11,12,13,14,15,40,41,42] [5,6,11,12] (lp (D53b1 x0 x1 x2 x3 x4) [] [] [] (D53b1 x0 x1 x2 x3 x4 0 false) (A53b1 x0 x1 x2 x3 x4)))
theorem zi9 (x0:Family) (x1:Law) (x2:Int) (x3:Int) (x4:Int) (hx:x0.people.length≤1048576) (hf:za4 x0=true) (hn:∀ p∈x0.people,p.name.length≤1048576) (h2:0≤x2∧x2<x0.people.length) (h3:0≤x3∧x3<x0.people.length) (hl:0≤x1.age∧x1.age≤99):FnT Tryz.prog 53 [.agg (zbx false x0),.agg (cLaw false x1),.int .i64 x2,.int .i64 x3,.int .i64 x4] (C53 (zdy x0 x1 x2 x3 x4)):=by
 have aux:∀ R,zdy x0 x1 x2 x3 x4=R→slim (C53 R) (A53 x0 x1 x2 x3 x4) []:=by
  intro R hR
  refine rg ⟨by trivial,by trivial,⟨by trivial,by trivial,by trivial,by (exact zbn x0 hf)⟩,trivial⟩ ?_
  refine rg trivial ?_
  revert hR;refine lN (fun i v=>True) zai rfl fun i1 v1 F1 hn1 hI1 hR hK1=>?_
  refine rg trivial ?_
  refine ⟨fun hc1=>?_,fun hc1=>?_⟩
  ·have hii1:i1<x0.unions.length:=by have:=of_decide_eq_true hc1;omega
   replace hR:=zbj hR hii1
   refine rg ⟨by (intros;omega),trivial⟩ ?_
   refine rg ⟨fun hg0=>trivial,trivial⟩ ?_
   have hp1:=zjw (x0.unions.getD i1 default) x2
   refine rg ⟨by (have hn9:=fam_n hf;simp only [inR];omega),trivial⟩ ?_
   exact hK1 (v1||(decide ((other (x0.unions.getD i1 default) x2)=x3))) hii1 zai hR
  ·obtain rfl:i1=x0.unions.length:=by have:=of_decide_eq_false hc1;omega
   replace hR:=zbp hR (Nat.lt_irrefl _)
   refine rg ⟨by ((try clear hR);have hp9:=fam_p hf (k:=x2.toNat) om;have hq9:=fam_p hf (k:=x3.toNat) om;have hb9:=hp9.born;have hc9:=hq9.born;simp only [inR];omega),by ((try clear hR);have hp9:=fam_p hf (k:=x2.toNat) om;have hq9:=fam_p hf (k:=x3.toNat) om;have hb9:=hp9.born;have hc9:=hq9.born;simp only [inR];omega),by ((try clear hR hK1);intros;(try simp only [decide_eq_true_eq,decide_eq_false_iff_not,Bool.or_eq_true,Bool.and_eq_true,zbd,za9,zba,Bool.not_eq_true',inR] at *);(repeat' apply And.intro)<;>(intros;omega)),trivial,fun hg0=>trivial,⟨by trivial,by trivial⟩,⟨by trivial,by trivial⟩,fun hg0=>⟨by trivial,by trivial,by trivial,by (exact zbn x0 hf)⟩,fun hg0=>⟨by trivial,by trivial,by trivial,by (exact zbn x0 hf)⟩,fun hg0=>⟨by trivial,by trivial,by trivial,by trivial⟩,fun hg0=>⟨by trivial,by trivial,by trivial⟩,fun hg0=>⟨by trivial,by trivial,by trivial⟩,fun hg0=>⟨by trivial,by trivial,by trivial⟩,fun hg0=>⟨by trivial,by trivial,by trivial⟩,fun hg0=>⟨by trivial,by trivial,by trivial,by trivial⟩,fun hg0=>⟨by trivial,by trivial,by trivial,by trivial⟩,trivial⟩ ?_
   refine rg trivial ?_
   revert hR;refine lN (fun i v=>v.length≤i) zai rfl fun i2 v2 F2 hn2 hI2 hR hK2=>?_
   refine rg trivial ?_
   refine ⟨fun hc2=>?_,fun hc2=>?_⟩
   ·have hii2:i2<13:=by have:=of_decide_eq_true hc2;omega
    replace hR:=zbj hR hii2
    refine rg ⟨by (intros;omega),trivial⟩ ?_
    revert hR;refine cd (fun hc3 hR=>?_) fun hc3 hR=>?_
    ·
      refine rg ⟨trivial,om,trivial⟩ ?_
      refine rg ⟨by ( intros;simp only [inR];omega),trivial⟩ ?_
      exact hK2 (v2++[((i2:Nat):Int)]) hii2 (by ((try simp only [List.length_set,List.length_replicate,List.length_append,List.length_singleton]);omega)) hR
    ·
      refine rg ⟨by ( intros;simp only [inR];omega),trivial⟩ ?_
      exact hK2 v2 hii2 za2 hR
   ·obtain rfl:i2=13:=by have:=of_decide_eq_false hc2;omega
    replace hR:=zbp hR (Nat.lt_irrefl _)
    refine rg trivial ?_
    exact congrArg C53 hR
 exact Fn.go 196 Tryz.func53 zah zah (by simp [C53,Frs,FrsL,FrsB,rowOf,cInt,cBool,cStr,cSl,zce,zbq,zb4,zbx,cDyad,cLaw]) (A53 x0 x1 x2 x3 x4) zah (aux _ rfl)
def k53 (x0:Family) (x1:Law) (x2:Int) (x3:Int) (x4:Int):Cl:=(hres (C53 (zdy x0 x1 x2 x3 x4)),Go.Lite.k6 (zi9 x0 x1 x2 x3 x4))
theorem zwx {x:Family} (hf:za4 x=true) {p q:Int} (hp:0≤p∧p<x.people.length) (hq:0≤q∧q<x.people.length):0≤(l8Up x p).getD q.toNat default↔q=p∨0<(l8Up x p).getD q.toNat default:=by
 have hd:=zev x p (zbn x hf) hp
 constructor
 ·intro h
  have h1:=(hd.yes q.toNat om h).1
  by_cases h2:(l8Up x p).getD q.toNat default=0
  ·rw [h2,Int.toNat_of_nonneg hq.1] at h1
   cases h1
   exact .inl rfl
  ·exact .inr om
 ·rintro (h | h)
  ·rcases Int.lt_or_le ((l8Up x p).getD q.toNat default) 0 with c | c
   ·have:=(hd.no q.toNat om c).2 0
    rw [Int.toNat_of_nonneg hq.1,h] at this
    exact absurd .zero this
   ·exact c
  ·omega
theorem anc_eq {x : Family} (hf : za4 x = true) {p q : Int} (hp : 0 ≤ p ∧ p < x.people.length) (hq : 0 ≤ q ∧ q < x.people.length) :
    (((decide (p=q))||(zcp x p q))||(zcp x q p))=((decide (0≤((l8Up x p).getD q.toNat default)))||(decide (0≤((l8Up x q).getD p.toNat default)))):=by
 rw [zkc hf hq,zkc hf hp,Bool.eq_iff_iff]
 simp only [Bool.or_eq_true,decide_eq_true_eq]
 rw [zwx hf hp hq,zwx hf hq hp]
 constructor
 ·rintro ((h | h) | h)
  ·exact .inl (.inl h.symm)
  ·exact .inr (.inr h)
  ·exact .inl (.inr h)
 ·rintro ((h | h) | (h | h))
  ·exact .inl (.inl h.symm)
  ·exact .inr h
  ·exact .inl (.inl h)
  ·exact .inl (.inr h)
theorem zzh {x:Family} (hf:za4 x=true) {p q:Int} (hp:0≤p∧p<x.people.length) (hq:0≤q∧q<x.people.length) (l:Law) (y:Int):zdy x l p q y=zj8 (zp1 x l p q y):=by
 unfold zdy zp1
 rw [← zpy hf hp y,← zpy hf hq y,← zok hf hp hq,← zwo x p q hf hp hq,← zis x p 1 (.inl rfl),← zis x q 1 (.inl rfl),← zis x p 2 (.inr rfl),← zis x q 2 (.inr rfl),← ztl hf hq l p y,← ztl hf hp l q y,← anc_eq hf hp hq,show zxt=zc9 from rfl]
 generalize ((!decide (((x.people.getD p.toNat default).sex)=1))||(!decide (((x.people.getD q.toNat default).sex)=2)))=e1
 generalize ((zc9 (x.people.getD p.toNat default) y)||(zc9 (x.people.getD q.toNat default) y))=e2
 generalize ((decide (y<(((x.people.getD p.toNat default).born)+l.age)))||(decide (y<(((x.people.getD q.toNat default).born)+l.age))))=e3
 generalize (decide (l.wives≤(((zdt x p y).length:Nat):Int)))=e4
 generalize (decide (l.husbands≤(((zdt x q y).length:Nat):Int)))=e5
 generalize (((decide (p=q))||(zcp x p q))||(zcp x q p))=e6
 generalize ((!decide (l.degree=0))&&(zer x p q l.degree))=e7
 generalize (((!decide (l.canon=0))&&((zck x p q).2))&&(decide (((zck x p q).1)≤l.canon)))=e8
 generalize (l.patriline&&(decide ((zct x p 1)=(zct x q 1))))=e9
 generalize (l.matriline&&(decide ((zct x p 2)=(zct x q 2))))=e10
 generalize ((!decide (l.affinity=0))&&((zdl x l p q y)||(zdl x l q p y)))=e11
 refine zd1 (fun i (v:Bool) (u:List Bool)=>u=[false,e1,e2,e3,e4,e5,e6,e7,e8,e9,e10,e11,v]) (fun (a:List Int) (b:List Bool)=>a=zj8 b) rfl (fun i v u n1 n2 hi hr hn=>?_) (fun v u hr=>?_)
 ·subst hr
  refine hn _ _ ?_
  have hu:=fam_u hf hi
  obtain ⟨o1,o2,o3⟩:=zq7 (u:=x.unions.getD i default) p hu.man.1 hu.woman.1
  have:decide ((other (x.unions.getD i default) p)=q)=(((zcu (x.unions.getD i default) p).2)&&(decide (((zcu (x.unions.getD i default) p).1)=q))):=by
   rw [o1]
   cases (zcu (x.unions.getD i default) p).2
   ·simp only [cond_false,Bool.false_and];exact decide_eq_false om
   ·rfl
  rw [this]
  rfl
 ·subst hr
  rfl
theorem zx7 {x:Family} {l:Law} {p q:Int} (h:(((!(ze8 l))||(!(l1Has x p)))||(!(l1Has x q)))=false):za4 x=true∧(0≤p∧p<x.people.length)∧(0≤q∧q<x.people.length)∧0≤l.age∧l.age≤99:=by
 simp only [zbd,za9,zed] at h
 exact ⟨h.2.2,h.1.2.1,h.2.1,zqr h.1.1⟩
theorem z05 (x:Family) (p q:Int):zcm x [p,q]=(l1Has x p&&l1Has x q):=by
 rw [Bool.eq_iff_iff,Bool.and_eq_true,zdz,zed,zed]
 exact ⟨fun h=>⟨⟨h.2.1,h.1⟩,h.2.2,h.1⟩,fun h=>⟨h.1.2,h.1.1,h.2.1⟩⟩
theorem zx8 (x:Family) (l:Law) (p q:Int):((!(zcm x [p,q]))||(!(zfc l)))=(((!(ze8 l))||(!(l1Has x p)))||(!(l1Has x q))):=by
 rw [zzf,z05]
 cases l1Has x p<;>cases l1Has x q<;>cases ze8 l<;>rfl
theorem zmr {x:Family} {l:Law} {p q:Int} (h:((!(zcm x [p,q]))||(!(zfc l)))=false):za4 x=true∧(0≤p∧p<x.people.length)∧(0≤q∧q<x.people.length)∧0≤l.age∧l.age≤99:=zx7 (by rw [← zx8];exact h)
theorem zwf (x:Family) (l:Law) (p q y:Int):(zp1 x l p q y).length=13:=by
 unfold zp1
 exact zb3 (fun i (v:List Bool)=>v.length=13) (fun (r:List Bool)=>r.length=13) zaj (fun i v next hi hv hn=>hn _ (by simp [hv])) (fun v hv=>hv)
def zqs (x0:Family) (x1:Law) (x2:Int) (x3:Int) (x4:Int):(List Int):=bif (((!(ze8 x1))||(!(l1Has x0 x2)))||(!(l1Has x0 x3))) then ([]:List Int) else (zj8 (zp1 x0 x1 x2 x3 x4))
def C21 (R:(List Int)):LV×List (Nat×BC):=(.own 0,[(0,.arr 1 R.length (rowOf (cInt .i64) R))])
def zd3 (x0:Family) (x1:Law) (x2:Int) (x3:Int) (x4:Int):(List Int):=bif ((!(zcm x0 [x2,x3]))||(!(zfc x1))) then ([]:List Int) else (zdy x0 x1 x2 x3 x4)
def A21 (x0:Family) (x1:Law) (x2:Int) (x3:Int) (x4:Int):Ann:=r0 1 [2,3,4,5,6,10] [5,6] (.reg 1 [] [(3,bsC 14 (cInt .i64) ([x2,x3]:List Int)),(4,k45 x0 [x2,x3]),(8,cg (!(!(zcm x0 [x2,x3]))) (k52 x1))] [2,3,4,5,6,10,21] [5,6] [!(!(zcm x0 [x2,x3])),!(zcm x0 [x2,x3])] [] [] [0,4,1,8,1,6] (cn ((!(zcm x0 [x2,x3]))||(!(zfc x1))) (r0 1 [2,3,4,5,6,10] [5,6] (rt [(0,none)] (C21 ([]:List Int)))) (.reg 1 [] [(5,k53 x0 x1 x2 x3 x4)] [10] [1027] [] [] [] [0] (rt [(0,some 1027)] (C21 (zdy x0 x1 x2 x3 x4))))))
theorem zjd (x0:Family) (x1:Law) (x2:Int) (x3:Int) (x4:Int) (hx:x0.people.length≤1048576) (hu:x0.unions.length≤1048576) (hn:∀ p∈x0.people,p.name.length≤1048576):FnT Tryz.prog 21 [.agg (zbx false x0),.agg (cLaw false x1),.int .i64 x2,.int .i64 x3,.int .i64 x4] (C21 (zd3 x0 x1 x2 x3 x4)):=by
 have aux:∀ R,zd3 x0 x1 x2 x3 x4=R→slim (C21 R) (A21 x0 x1 x2 x3 x4) []:=by
  intro R hR
  refine rg trivial ?_
  refine rg ⟨trivial,⟨by trivial,by trivial,by trivial,by ((try clear hR);intros;(try simp only [decide_eq_true_eq,decide_eq_false_iff_not,Bool.or_eq_true,Bool.and_eq_true,zbd,za9,zba,Bool.not_eq_true',inR] at *);(repeat' apply And.intro)<;>(simp_all [inR];done))⟩,fun hg0=>trivial,trivial⟩ ?_
  revert hR;refine cd (fun hc1 hR=>?_) fun hc1 hR=>?_
  ·
    refine rg trivial ?_
    exact congrArg C21 hR
  ·
    refine rg ⟨⟨by trivial,by (have h9:=zmr hc1;first | exact h9.1 | exact h9.2.1 | exact h9.2.2.1 | exact h9.2.2.2 | omega),by trivial,by (have h9:=zmr hc1;first | exact h9.1 | exact h9.2.1 | exact h9.2.2.1 | exact h9.2.2.2 | omega),by (have h9:=zmr hc1;first | exact h9.1 | exact h9.2.1 | exact h9.2.2.1 | exact h9.2.2.2 | omega),by (have h9:=zmr hc1;first | exact h9.1 | exact h9.2.1 | exact h9.2.2.1 | exact h9.2.2.2 | omega)⟩,trivial⟩ ?_
    exact congrArg C21 hR
 exact Fn.go 28 Tryz.func21 zah zah (by simp [C21,Frs,FrsL,FrsB,rowOf,cInt,cBool,cStr,cSl,zce,zbq,zb4,zbx,cDyad,cLaw]) (A21 x0 x1 x2 x3 x4) zah (aux _ rfl)
def k21 (x0:Family) (x1:Law) (x2:Int) (x3:Int) (x4:Int):Cl:=(hres (C21 (zd3 x0 x1 x2 x3 x4)),k3 (zjd x0 x1 x2 x3 x4))
theorem imp_eq (x:Family) (l:Law) (p q y:Int):zd3 x l p q y=zqs x l p q y:=by
 unfold zd3 zqs
 rw [zx8]
 cases h:(((!(ze8 l))||(!(l1Has x p)))||(!(l1Has x q)))
 ·obtain ⟨h1,h2,h3,_⟩:=zx7 h
  simp only [cond_false]
  exact zzh h1 h2 h3 l y
 ·rfl
theorem ztt (x:Family) (l:Law) (p q y:Int):(zqs x l p q y).length≤13:=by
 unfold zqs
 refine zbm (p:=fun (r:List Int)=>r.length≤13) (fun _=>by simp) (fun _=>?_)
 have:=zsy (zp1 x l p q y)
 rw [zwf] at this
 exact this
def C138 (R:Family):LV×List (Nat×BC):=(.agg [.own 0,.own 1],[(0,.arr 6 R.people.length (rowOf (zbq true) R.people)),(1,.arr 4 R.unions.length (rowOf (zb4 true) R.unions))])
def zcr (x0:Family):Family:=x0
def A138 (x0:Family):Ann:=.reg 5 [] [(2004,apN 9 (zbq true) 56 x0.people),(3004,apN 15 (zb4 true) 32 x0.unions)] [2] [2,9,15] [] [] [] [0,4] (rt [(0,some 9),(1,some 15)] (C138 x0))
theorem zoy (x0:Family) (hx:x0.people.length≤1048576) (hu:x0.unions.length≤1048576):FnT Tryz.prog 138 [.agg (zbx false x0)] (C138 (zcr x0)):=by
 have aux:∀ R,zcr x0=R→slim (C138 R) (A138 x0) []:=by
  intro R hR
  refine rg ⟨om,om,trivial⟩ ?_
  exact congrArg C138 hR
 exact Fn.go 18 Tryz.func138 zah zah (by simp [C138,Frs,FrsL,FrsB,rowOf,cInt,cBool,cStr,cSl,zce,zbq,zb4,zbx,cDyad,cLaw]) (A138 x0) zah (aux _ rfl)
def k138 (x0:Family):Cl:=(hres (C138 (zcr x0)),k2 (zoy x0))
end Go.Proofs.YtaageiiodlfeiaaGreat
