import Derived.Test.YtaageiiodlfeiaaGreatV10
set_option maxHeartbeats 4000000
set_option linter.unusedSimpArgs false
set_option linter.unusedVariables false
namespace Go.Proofs.YtaageiiodlfeiaaGreat
open Go Go.Lite Go.Proofs
theorem znz (x:Family) (a b:Int) (hf:za4 x=true) (ha:0≤a∧a<x.people.length) (hb:0≤b∧b<x.people.length):zde x a b=zdc x a b:=by
 have hp:=zbn x hf
 unfold zde zdc
 rw [ze9 hf ha hb,zek x a b hp ha hb,zc4 x a hp ha,zc4 x b hp hb]
 refine zd1 (fun i (v:Int×Int×Bool) (u:Int×Int)=>(v.2.2=false→v=(0,0,false)∧u=(-1,-1))∧(v.2.2=true→v.1=u.1∧v.2.1=u.2∧0≤u.1∧0≤u.2)) Eq ⟨fun _=>⟨rfl,rfl⟩,fun h=>by cases h⟩ (fun i v u n1 n2 hi hv hn=>?_) (fun v u hv=>?_)
 ·obtain ⟨g1,g2,g3,g4⟩:=(zfw x a b).2 _ (zb0 (d:=default) hi)
  generalize (zeo x a b).getD i default=q at g1 g2 g3 g4 ⊢
  generalize (l8Up x a).getD q.toNat default=n at g3 ⊢
  generalize (l8Up x b).getD q.toNat default=m at g4 ⊢
  obtain ⟨v1,v2,v3⟩:=v
  obtain ⟨u1,u2⟩:=u
  cases v3
  ·obtain ⟨h1,h2⟩:=hv.1 rfl
   cases h2
   simp only [Bool.not_false,cond_true]
   have:decide ((-1:Int)<0)=true:=rfl
   simp only [this,Bool.true_or,cond_true]
   exact hn _ _ ⟨fun h=>by simp at h,fun _=>⟨rfl,rfl,g3,g4⟩⟩
  ·obtain ⟨h1,h2,h3,h4⟩:=hv.2 rfl
   simp only at h1 h2 h3 h4 ⊢
   subst h1;subst h2
   simp only [Bool.not_true,cond_false]
   have keep:n1 (v1,v2,true)=n2 (v1,v2):=hn _ _ ⟨fun h=>by simp at h,fun _=>⟨rfl,rfl,h3,h4⟩⟩
   have take:n1 (n,m,true)=n2 (n,m):=hn _ _ ⟨fun h=>by simp at h,fun _=>⟨rfl,rfl,g3,g4⟩⟩
   have hneg:decide (v1<0)=false:=decide_eq_false om
   simp only [hneg,Bool.false_or]
   by_cases c1:n+m=v1+v2
   ·by_cases c2:max n m=max v1 v2
    ·by_cases c3:v1≤n
     ·simp only [c1,c2,c3,decide_true,Bool.not_true,cond_false,cond_true,Int.lt_irrefl,decide_false,Bool.false_or,Bool.true_and,show ¬ n<v1 by omega];exact keep
     ·simp only [c1,c2,c3,decide_true,Bool.not_true,cond_false,cond_true,Int.lt_irrefl,decide_false,Bool.false_or,Bool.true_and,show n<v1 by omega];exact take
    ·by_cases c3:max v1 v2<max n m
     ·simp only [c1,c2,c3,decide_true,decide_false,Bool.not_true,Bool.not_false,cond_false,cond_true,Int.lt_irrefl,Bool.false_or,Bool.true_and,Bool.false_and,Bool.or_false,show ¬ max n m<max v1 v2 by omega];exact keep
     ·simp only [c1,c2,c3,decide_true,decide_false,Bool.not_true,Bool.not_false,cond_false,cond_true,Int.lt_irrefl,Bool.false_or,Bool.true_and,Bool.false_and,Bool.or_false,show max n m<max v1 v2 by omega];exact take
   ·by_cases c3:v1+v2<n+m
    ·simp only [c1,c3,decide_true,decide_false,Bool.not_false,cond_true,show ¬ n+m<v1+v2 by omega,Bool.false_or,Bool.false_and,cond_false];exact keep
    ·simp only [c1,c3,decide_true,decide_false,Bool.not_false,cond_true,show n+m<v1+v2 by omega,Bool.true_or,cond_false];exact take
 ·obtain ⟨v1,v2,v3⟩:=v
  obtain ⟨u1,u2⟩:=u
  cases v3
  ·obtain ⟨h1,h2⟩:=hv.1 rfl
   cases h2;cases h1
   rfl
  ·obtain ⟨h1,h2,h3,h4⟩:=hv.2 rfl
   simp only at h1 h2 h3 h4 ⊢
   subst h1;subst h2
   simp only [show ¬ v1<0 by omega,decide_false,cond_false]
theorem zwo (x:Family) (a b:Int) (hf:za4 x=true) (ha:0≤a∧a<x.people.length) (hb:0≤b∧b<x.people.length):zck x a b=zgb x a b:=by
 have hp:=zbn x hf
 unfold zck zgb
 rw [ze9 hf ha hb,zek x a b hp ha hb,zc4 x a hp ha,zc4 x b hp hb]
 refine zd1 (fun i (v:Int×Bool) (u:Int)=>(v.2=false→v=(0,false)∧u=-1)∧(v.2=true→v.1=u∧0≤u)) Eq ⟨fun _=>⟨rfl,rfl⟩,fun h=>by cases h⟩ (fun i v u n1 n2 hi hv hn=>?_) (fun v u hv=>?_)
 ·obtain ⟨g1,g2,g3,g4⟩:=(zfw x a b).2 _ (zb0 (d:=default) hi)
  generalize (zeo x a b).getD i default=q at g1 g2 g3 g4 ⊢
  generalize (l8Up x a).getD q.toNat default=n at g3 ⊢
  generalize (l8Up x b).getD q.toNat default=m at g4 ⊢
  obtain ⟨v1,v2⟩:=v
  cases v2
  ·obtain ⟨h1,h2⟩:=hv.1 rfl
   subst h2
   simp only [Bool.not_false,Bool.true_or,cond_true,show decide ((-1:Int)<0)=true from rfl]
   exact hn _ _ ⟨fun h=>by simp at h,fun _=>⟨rfl,by show 0≤max n m;omega⟩⟩
  ·obtain ⟨h1,h2⟩:=hv.2 rfl
   simp only at h1 h2 ⊢
   subst h1
   simp only [Bool.not_true,Bool.false_or,show decide (v1<0)=false from decide_eq_false om]
   by_cases c:max n m<v1
   ·simp only [c,decide_true,cond_true];exact hn _ _ ⟨fun h=>by simp at h,fun _=>⟨rfl,by show 0≤max n m;omega⟩⟩
   ·simp only [c,decide_false,cond_false];exact hn _ _ ⟨fun h=>by simp at h,fun _=>⟨rfl,h2⟩⟩
 ·obtain ⟨v1,v2⟩:=v
  cases v2
  ·obtain ⟨h1,h2⟩:=hv.1 rfl
   subst h2;cases h1;rfl
  ·obtain ⟨h1,h2⟩:=hv.2 rfl
   simp only at h1 h2 ⊢
   subst h1
   simp only [show ¬ v1<0 by omega,decide_false,cond_false]
def zf1 (x0:Family) (x1:Int):(List Int):=bif (!(l1Has x0 x1)) then ([]:List Int) else (loopN (fun i1 (v1:(List Int)) next=>bif (decide (0<((l8Up x0 x1).getD i1 default))) then (next (v1++[((i1:Nat):Int)])) else (next v1)) (fun (v1:(List Int))=>v1) ((l8Up x0 x1).length) 0 ([]:List Int))
def C101 (R:Bool):LV×List (Nat×BC):=(.bool R,[])
def zcp (x0:Family) (x1:Int) (x2:Int):Bool:=decide (0<((zbg x0 x2).getD x1.toNat default))
def A101 (x0:Family) (x1:Int) (x2:Int):Ann:=.reg 2 [] [(1002,k51 x0 x2)] [6] [] [] [pf (0≤(x1:Int)∧(x1:Int)<(((zbg x0 x2).length:Nat):Int))] [] [4,0] (rt [] (C101 (decide (0<((zbg x0 x2).getD x1.toNat default)))))
theorem zj2 (x0:Family) (x1:Int) (x2:Int) (hx:x0.people.length≤1048576) (hi:0≤x1∧x1<x0.people.length) (hj:0≤x2∧x2<x0.people.length) (hp:∀ (k:Nat),k<x0.people.length→(x0.people.getD k default).father<k∧(x0.people.getD k default).mother<k):FnT Tryz.prog 101 [.agg (zbx false x0),.int .i64 x1,.int .i64 x2] (C101 (zcp x0 x1 x2)):=by
 have aux:∀ R,zcp x0 x1 x2=R→slim (C101 R) (A101 x0 x1 x2) []:=by
  intro R hR
  refine rg ⟨by (have:=zcb x0 x2 hp hj;omega),⟨by trivial,by trivial,by trivial⟩,trivial⟩ ?_
  exact congrArg C101 hR
 exact Fn.go 14 Tryz.func101 zah zah (by simp [C101,Frs,FrsL]) (A101 x0 x1 x2) zah (aux _ rfl)
def k101 (x0:Family) (x1:Int) (x2:Int):Cl:=(hres (C101 (zcp x0 x1 x2)),k4 (zj2 x0 x1 x2))
def C20 (R:(List Int)):LV×List (Nat×BC):=(.own 0,[(0,.arr 1 R.length (rowOf (cInt .i64) R))])
def zbt (x0:Family) (x1:Int):(List Int):=bif (!(zcm x0 [x1])) then ([]:List Int) else (loopN (fun i1 (v1:(List Int)) next=>bif (decide (0<((zbg x0 x1).getD i1 default))) then (next (v1++[((i1:Nat):Int)])) else (next v1)) (fun (v1:(List Int))=>v1) ((zbg x0 x1).length) 0 ([]:List Int))
def D20b1 (x0:Family) (x1:Int) (i1:Nat) (v1:(List Int)):Dl:=⟨[(17,.int .i64 ((i1:Nat):Int)),(5,.own 20005)],[(20005,.arr 1 v1.length (rowOf (cInt .i64) v1))]⟩
def A20b1 (x0:Family) (x1:Int) (i1:Nat) (v1:(List Int)):Ann:=r0 1 [4,5,15,16,17,18] [1015,20005] (cn (decide (((i1:Nat):Int)<(((zbg x0 x1).length:Nat):Int))) (r1 2 [4,5,6,15,16,17,23] [1015,20005] [pf (0≤(((i1:Nat):Int):Int)∧(((i1:Nat):Int):Int)<(((zbg x0 x1).length:Nat):Int))] [0] (cn (decide (0<((zbg x0 x1).getD i1 default))) (.reg 1 [] [(2,bsC 26 (cInt .i64) ([((i1:Nat):Int)]:List Int)),(3,ap1 27 (cInt .i64) 8 v1 ((i1:Nat):Int))] [4,5,15,16,17] [27,1015] [] [] [] [0,4] (r1 1 [4,5,15,16,17] [27,1015] [pf (inR .i64 (((i1:Nat):Int)+1))] [0] (.next 0 [(20005,some 27)] (D20b1 x0 x1 (i1+1) (v1++[((i1:Nat):Int)]))))) (r1 1 [4,5,15,16,17] [1015,20005] [pf (inR .i64 (((i1:Nat):Int)+1))] [0] (.next 0 [(20005,some 20005)] (D20b1 x0 x1 (i1+1) v1))))) (r0 1 [4] [20005] (rt [(0,some 20005)] (C20 v1))))
def A20 (x0:Family) (x1:Int):Ann:=r0 1 [1,2,4] [2] (.reg 1 [] [(2,bsC 10 (cInt .i64) ([x1]:List Int)),(3,k45 x0 [x1])] [1,2,4,12] [2] [] [] [] [0,4] (cn (!(zcm x0 [x1])) (r0 1 [1,2,4] [2] (rt [(0,none)] (C20 ([]:List Int)))) (r0 1 [1,2,4,5] [2] (.reg 1 [] [(2,k51 x0 x1)] [4,5,15,16,17] [1015] [] [] [] [0] (lp (D20b1 x0 x1) [] [] [(20005,none)] (D20b1 x0 x1 0 ([]:List Int)) (A20b1 x0 x1))))))
theorem zje (x0:Family) (x1:Int) (hx:x0.people.length≤1048576) (hu:x0.unions.length≤1048576) (hn:∀ p∈x0.people,p.name.length≤1048576):FnT Tryz.prog 20 [.agg (zbx false x0),.int .i64 x1] (C20 (zbt x0 x1)):=by
 have aux:∀ R,zbt x0 x1=R→slim (C20 R) (A20 x0 x1) []:=by
  intro R hR
  refine rg trivial ?_
  refine rg ⟨trivial,⟨by trivial,by trivial,by trivial,by ((try clear hR);intros;(try simp only [decide_eq_true_eq,decide_eq_false_iff_not,Bool.or_eq_true,Bool.and_eq_true,zbd,za9,zba,Bool.not_eq_true',inR] at *);(repeat' apply And.intro)<;>(simp_all [inR];done))⟩,trivial⟩ ?_
  revert hR;refine cd (fun hc1 hR=>?_) fun hc1 hR=>?_
  ·
    refine rg trivial ?_
    exact congrArg C20 hR
  ·
    refine rg trivial ?_
    refine rg ⟨⟨by trivial,by (have h9:=(ze2 x0 x1).1 zag;omega),by (have h9:=(ze2 x0 x1).1 zag;exact zbn _ h9.1)⟩,trivial⟩ ?_
    revert hR;refine lN (fun i v=>v.length≤i) zai rfl fun i1 v1 F1 hn1 hI1 hR hK1=>?_
    refine rg trivial ?_
    refine ⟨fun hc2=>?_,fun hc2=>?_⟩
    · have hii1:i1<(zbg x0 x1).length:=by have:=of_decide_eq_true hc2;omega
      replace hR:=zbj hR hii1
      refine rg ⟨by (intros;omega),trivial⟩ ?_
      revert hR;refine cd (fun hc3 hR=>?_) fun hc3 hR=>?_
      ·
        refine rg ⟨trivial,by (have h8:=(ze2 x0 x1).1 zag;have h9:=zcb x0 x1 (zbn _ h8.1) h8.2;omega),trivial⟩ ?_
        refine rg ⟨by ((try clear hR hK1);intros;(try simp only [decide_eq_true_eq,decide_eq_false_iff_not,Bool.or_eq_true,Bool.and_eq_true,zbd,za9,zba,Bool.not_eq_true',inR] at *);(repeat' apply And.intro)<;>(first | (intros;omega) | (have h8:=(ze2 x0 x1).1 zag;have h9:=zcb x0 x1 (zbn _ h8.1) h8.2;omega))),trivial⟩ ?_
        exact hK1 (v1++[((i1:Nat):Int)]) hii1 (by (simp;omega)) hR
      ·
        refine rg ⟨by ((try clear hR hK1);intros;(try simp only [decide_eq_true_eq,decide_eq_false_iff_not,Bool.or_eq_true,Bool.and_eq_true,zbd,za9,zba,Bool.not_eq_true',inR] at *);(repeat' apply And.intro)<;>(first | (intros;omega) | (have h8:=(ze2 x0 x1).1 zag;have h9:=zcb x0 x1 (zbn _ h8.1) h8.2;omega))),trivial⟩ ?_
        exact hK1 v1 hii1 za2 hR
    · obtain rfl:i1=(zbg x0 x1).length:=by have:=of_decide_eq_false hc2;omega
      replace hR:=zbp hR (Nat.lt_irrefl _)
      refine rg trivial ?_
      exact congrArg C20 hR
 exact Fn.go 30 Tryz.func20 zah zah (by simp [C20,Frs,FrsL,FrsB,rowOf,cInt,cBool,cStr,cSl,zce,zbq,zb4,zbx]) (A20 x0 x1) zah (aux _ rfl)
def k20 (x0:Family) (x1:Int):Cl:=(hres (C20 (zbt x0 x1)),k3 (zje x0 x1))
theorem zkc {x:Family} (hf:za4 x=true) {q p:Int} (hp:0≤p∧p<x.people.length):zcp x q p=decide (0<(l8Up x p).getD q.toNat default):=by
 unfold zcp
 rw [zc4 x p (zbn x hf) hp]
theorem z06 (x:Family) (p:Int):zcm x [p]=l1Has x p:=by
 rw [Bool.eq_iff_iff,ze2,zed];exact and_comm
theorem ztk (x:Family) (p:Int):zbt x p=zf1 x p:=by
 unfold zbt zf1
 rw [z06]
 cases h:l1Has x p
 ·rfl
 ·have h:=(zed x p).1 h
  rw [zc4 x p (zbn x h.2) h.1]
theorem zph {n:Nat} {p:Nat→Bool} {f:Nat→Int}:(loopN (fun i (v:List Int) next=>bif p i then next (v++[f i]) else next v) (fun v=>v) n 0 []).length≤n :=
 zb3 (fun i (v:List Int)=>v.length≤i) (fun (r:List Int)=>r.length≤n) zaj (fun i v next hi hv hn=>zbm (p:=fun (r:List Int)=>r.length≤n) (fun _=>hn _ (by simp;omega)) (fun _=>hn _ om)) (fun v hv=>hv)
theorem zkq (x:Family) (p:Int):(zf1 x p).length≤x.people.length:=by
 unfold zf1
 refine zbm (p:=fun (r:List Int)=>r.length≤x.people.length) (fun _=>by simp) (fun _=>?_)
 rw [← zrq x p];exact zph
theorem zle (x:Family) (p:Int):(zbt x p).length≤x.people.length:=by rw [ztk];exact zkq x p
structure Dyad where
 num:Int
 exp:Int
 deriving Inhabited
def cDyad (fr:Bool) (x:Dyad):List LV:=cInt .i64 x.num++cInt .i64 x.exp

def Dy (d:Dyad):Prop:=0≤d.num∧(0≤d.exp∧d.exp≤40)∧d.num * 2 ^ (40 - d.exp).toNat≤2199023255552
theorem zy5 (k:Nat):(0:Int)<2 ^ k:=Int.pow_pos om
theorem Dy.le {d:Dyad} (h:Dy d):0≤d.num∧d.num≤2199023255552:=by
 refine ⟨h.1,Int.le_trans ?_ h.2.2⟩
 have h1:=Int.mul_le_mul_of_nonneg_left (show (1:Int)≤2 ^ (40 - d.exp).toNat from by have:=zy5 (40 - d.exp).toNat;omega) h.1
 rwa [Int.mul_one] at h1
def C130 (R:Bool):LV×List (Nat×BC):=(.bool R,[])
def zp6 (x0:Dyad):Bool:=((((decide (0≤x0.num))&&(decide (x0.num≤1073741824)))&&(decide (0≤x0.exp)))&&(decide (x0.exp≤30)))&&((decide (x0.exp=0))||(decide ((x0.num.tmod 2)=1)))
def A130 (x0:Dyad):Ann:=.reg 2 [] [] [2] [] [decide (0≤x0.num),(decide (0≤x0.num))&&(decide (x0.num≤1073741824)),((decide (0≤x0.num))&&(decide (x0.num≤1073741824)))&&(decide (0≤x0.exp)),(((decide (0≤x0.num))&&(decide (x0.num≤1073741824)))&&(decide (0≤x0.exp)))&&(decide (x0.exp≤30)),((((decide (0≤x0.num))&&(decide (x0.num≤1073741824)))&&(decide (0≤x0.exp)))&&(decide (x0.exp≤30)))&&(!(decide (x0.exp=0)))] [gt (((((decide (0≤x0.num))&&(decide (x0.num≤1073741824)))&&(decide (0≤x0.exp)))&&(decide (x0.exp≤30)))&&(!(decide (x0.exp=0)))) (pf ((2:Int)≠0)),gt ((((decide (0≤x0.num))&&(decide (x0.num≤1073741824)))&&(decide (0≤x0.exp)))&&(decide (x0.exp≤30))) (gf (decide (x0.exp=0)) (pf ((((((decide (0≤x0.num))&&(decide (x0.num≤1073741824)))&&(decide (0≤x0.exp)))&&(decide (x0.exp≤30)))&&(!(decide (x0.exp=0))))=true)))] [] [1,1,1,5,5,5,9,9,9,13,13,13,17,17,0,17,13,4,13] (rt [] (C130 (((((decide (0≤x0.num))&&(decide (x0.num≤1073741824)))&&(decide (0≤x0.exp)))&&(decide (x0.exp≤30)))&&((decide (x0.exp=0))||(decide ((x0.num.tmod 2)=1))))))
theorem zo5 (x0:Dyad):FnT Tryz.prog 130 [.agg (cDyad false x0)] (C130 (zp6 x0)):=by
 have aux:∀ R,zp6 x0=R→slim (C130 R) (A130 x0) []:=by
  intro R hR
  refine rg ⟨by (intros;omega),by ((try clear hR);intros;(try simp only [decide_eq_true_eq,decide_eq_false_iff_not,Bool.or_eq_true,Bool.and_eq_true,zbd,za9,zba,Bool.not_eq_true',inR] at *);(repeat' apply And.intro)<;>(intros;omega)),trivial⟩ ?_
  exact congrArg C130 hR
 exact Fn.go 32 Tryz.func130 zah zah (by simp [C130,Frs,FrsL]) (A130 x0) zah (aux _ rfl)
def k130 (x0:Dyad):Cl:=(hres (C130 (zp6 x0)),k0 (zo5 x0))
def C92 (R:Dyad×Bool):LV×List (Nat×BC):=(.tup [.agg [.int .i64 R.1.num,.int .i64 R.1.exp],.bool R.2],[])
def zqd (x0:Int) (x1:Int):Dyad×Bool:=loopW (fun (v1:Int×Int) next=>bif ((decide (0<v1.2))&&(decide ((v1.1.tmod 2)=0))) then (next (v1.1.tdiv 2,v1.2 - 1)) else ((Dyad.mk v1.1 v1.2),zp6 (Dyad.mk v1.1 v1.2))) (x1.toNat+1) (x0,x1)
def D92b1 (x0:Int) (x1:Int) (v1:Int×Int):Dl:=⟨[(0,.int .i64 v1.1),(1,.int .i64 v1.2)],[]⟩
def A92b1 (x0:Int) (x1:Int) (v1:Int×Int):Ann:=.reg 1 [] [] [0,1,4,5,13] [4] [decide (0<v1.2)] [gt (decide (0<v1.2)) (pf ((2:Int)≠0))] [] [1,0,1,1] (cn ((decide (0<v1.2))&&(decide ((v1.1.tmod 2)=0))) (r1 1 [0,1,4,5] [4] [pf ((2:Int)≠0),pf (inR .i64 (v1.1.tdiv 2))] [0,4] (r1 1 [0,1,4,5] [4] [pf (inR .i64 (v1.2 - 1))] [0] (.next 0 [] (D92b1 x0 x1 (v1.1.tdiv 2,v1.2 - 1))))) (.reg 2 [] [(1002,k130 (Dyad.mk v1.1 v1.2))] [4,5] [4] [] [] [] [0] (rt [] (C92 ((Dyad.mk v1.1 v1.2),zp6 (Dyad.mk v1.1 v1.2))))))
def A92 (x0:Int) (x1:Int):Ann:=r0 1 [0,1,4,5] [4] (.loop (Int×Int) (D92b1 x0 x1) [] [] [] (D92b1 x0 x1 (x0,x1)) (A92b1 x0 x1))
theorem zo7 (x0:Int) (x1:Int) (hn:0≤x0∧x0≤4611686018427387904) (he:0≤x1∧x1≤100):FnT Tryz.prog 92 [.int .i64 x0,.int .i64 x1] (C92 (zqd x0 x1)):=by
 have aux:∀ R,zqd x0 x1=R→slim (C92 R) (A92 x0 x1) []:=by
  intro R hR
  refine rg trivial ?_
  revert hR;refine lW (fun v=>(0≤v.1∧v.1≤4611686018427387904)∧0≤v.2∧v.2≤100) (fun v=>v.2.toNat) zai (Nat.lt_succ_self _) rfl fun m1 v1 F1 hI1 hM1 hR hK1=>?_
  refine rg ⟨by (intros;omega),trivial⟩ ?_
  revert hR;refine cd (fun hc1 hR=>?_) fun hc1 hR=>?_
  ·
    refine rg ⟨by trivial,by ((try clear hR hK1);intros;(try simp only [decide_eq_true_eq,decide_eq_false_iff_not,Bool.or_eq_true,Bool.and_eq_true,zbd,za9,zba,Bool.not_eq_true',inR] at *);(repeat' apply And.intro)<;>(have e:=Int.tdiv_eq_ediv_of_nonneg (a:=v1.1) (b:=2) om;omega)),trivial⟩ ?_
    refine rg ⟨by ( intros;simp only [inR];omega),trivial⟩ ?_
    exact hK1 (v1.1.tdiv 2,v1.2 - 1) (by ((try clear hR hK1);intros;(try simp only [decide_eq_true_eq,decide_eq_false_iff_not,Bool.or_eq_true,Bool.and_eq_true,zbd,za9,zba,Bool.not_eq_true',inR] at *);(repeat' apply And.intro)<;>(first | (intros;omega) | (have e:=Int.tdiv_eq_ediv_of_nonneg (a:=v1.1) (b:=2) om;omega)))) zad hR
  ·
    refine rg ⟨trivial,trivial⟩ ?_
    exact congrArg C92 hR
 exact Fn.go 24 Tryz.func92 zah zah (by simp [C92,Frs,FrsL]) (A92 x0 x1) zah (aux _ rfl)
def k92 (x0:Int) (x1:Int):Cl:=(hres (C92 (zqd x0 x1)),k2 (zo7 x0 x1))
def C47 (R:Dyad):LV×List (Nat×BC):=(.agg [.int .i64 R.num,.int .i64 R.exp],[])
def zf8 (x0:Int):Dyad:=((zqd x0 40).1)
def A47 (x0:Int):Ann:=.reg 3 [] [(1001,k92 x0 40)] [2] [2] [] [] [] [0] (rt [] (C47 ((zqd x0 40).1)))
theorem zk0 (x0:Int) (hn:0≤x0∧x0≤4398046511104):FnT Tryz.prog 47 [.int .i64 x0] (C47 (zf8 x0)):=by
 have aux:∀ R,zf8 x0=R→slim (C47 R) (A47 x0) []:=by
  intro R hR
  refine rg ⟨⟨by (intros;omega),by trivial⟩,trivial⟩ ?_
  exact congrArg C47 hR
 exact Fn.go 11 Tryz.func47 zah zah (by simp [C47,Frs,FrsL]) (A47 x0) zah (aux _ rfl)
def k47 (x0:Int):Cl:=(hres (C47 (zf8 x0)),k1 (zk0 x0))
def red : Int → Nat → Dyad
  | n,0=>⟨n,0⟩
  | n,e+1=>bif decide (n % 2=0) then red (n / 2) e else ⟨n,(e+1:Nat)⟩
theorem zqc : ∀ (e : Nat) (n : Int) (m : Nat), 0 ≤ n → e < m → (loopW (fun (v1 : Int × Int) next => bif ((decide (0 < v1.2)) && (decide ((v1.1.tmod 2) = 0))) then (next (v1.1.tdiv 2, v1.2 - 1)) else ((Dyad.mk v1.1 v1.2), zp6 (Dyad.mk v1.1 v1.2))) m (n, (e : Int))).1 = red n e
  | 0,n,m+1,_,_=>rfl
  | e+1,n,m+1,hn,hm=>by
    simp only [loopW,red]
    rw [decide_eq_true (show (0:Int)<((e+1:Nat):Int) by omega),Bool.true_and,Int.tmod_eq_emod_of_nonneg hn,Int.tdiv_eq_ediv_of_nonneg hn]
    cases decide (n % 2=0)
    · rfl
    · simp only [cond_true]
      rw [show ((e+1:Nat):Int) - 1=(e:Int) by omega]
      exact zqc e (n / 2) m om om
def dy (n:Int):Dyad:=red n 40
theorem zr3 {n:Int} (hn:0≤n):zf8 n=dy n:=by
 unfold zf8 zqd
 exact zqc 40 n _ hn (by decide)
end Go.Proofs.YtaageiiodlfeiaaGreat
