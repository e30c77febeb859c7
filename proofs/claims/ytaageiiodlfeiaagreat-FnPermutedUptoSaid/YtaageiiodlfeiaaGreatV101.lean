import Derived.Test.YtaageiiodlfeiaaGreatM80
set_option maxHeartbeats 4000000
set_option linter.unusedSimpArgs false
set_option linter.unusedVariables false
namespace Go.Proofs.YtaageiiodlfeiaaGreat
open Go Go.Lite Go.Proofs
structure Law where
 degree:Int
 canon:Int
 affinity:Int
 age:Int
 wives:Int
 husbands:Int
 patriline:Bool
 matriline:Bool
 deriving Inhabited
def cLaw (fr:Bool) (x:Law):List LV:=cInt .i64 x.degree++cInt .i64 x.canon++cInt .i64 x.affinity++cInt .i64 x.age++cInt .i64 x.wives++cInt .i64 x.husbands++cBool x.patriline++cBool x.matriline

def C98 (R:Int):LV×List (Nat×BC):=(.int .i64 R,[])
def other (x0:Union) (x1:Int):Int:=bif (decide (x1=x0.man)) then x0.woman else (bif (decide (x1=x0.woman)) then x0.man else (-1))
def A98 (x0:Union) (x1:Int):Ann:=r0 1 [1,2,4] [2] (r0 1 [2,4,5] [2] (r0 1 [2,4,5,6] [2] (cn (decide (x1=x0.man)) (r0 1 [4] [] (rt [] (C98 x0.woman))) (r0 1 [2,4,12] [2] (cn (decide (x1=x0.woman)) (r0 1 [4] [] (rt [] (C98 x0.man))) (r0 1 [4] [] (rt [] (C98 (-1)))))))))
theorem zjw (u:Union) (p:Int):other u p=u.man∨other u p=u.woman∨other u p=-1:=by
 unfold other
 refine zbm (p:=fun (r:Int)=>r=u.man∨r=u.woman∨r=-1) (fun _=>.inr (.inl rfl)) (fun _=>?_)
 exact zbm (p:=fun (r:Int)=>r=u.man∨r=u.woman∨r=-1) (fun _=>.inl rfl) (fun _=>.inr (.inr rfl))
theorem zrf (x0:Union) (x1:Int):FnT Tryz.prog 98 [.agg (zb4 false x0),.int .i64 x1] (C98 (other x0 x1)):=by
 have aux:∀ R,other x0 x1=R→slim (C98 R) (A98 x0 x1) []:=by
  intro R hR
  refine rg trivial ?_
  refine rg trivial ?_
  refine rg trivial ?_
  revert hR;refine cd (fun hc1 hR=>?_) fun hc1 hR=>?_
  ·
    refine rg trivial ?_
    exact congrArg C98 hR
  ·
    refine rg trivial ?_
    revert hR;refine cd (fun hc2 hR=>?_) fun hc2 hR=>?_
    ·
      refine rg trivial ?_
      exact congrArg C98 hR
    ·
      refine rg trivial ?_
      exact congrArg C98 hR
 exact Fn.go 18 Tryz.func98 zah zah (by simp [C98,Frs,FrsL]) (A98 x0 x1) zah (aux _ rfl)
def k98 (x0:Union) (x1:Int):Cl:=(hres (C98 (other x0 x1)),k0 (zrf x0 x1))
def zcu (x0:Union) (x1:Int):Int×Bool:=bif (decide (x0.man=x1)) then (x0.woman,true) else (x0.man,decide (x0.woman=x1))
def C131 (R:Int×Bool):LV×List (Nat×BC):=(.tup [.int .i64 R.1,.bool R.2],[])
def zdp (x0:Family) (x1:Union):Int×Bool:=bif (!decide (x1.to=(-1))) then (x1.to,true) else (bif (decide (((x0.people.getD x1.man.toNat default).died)=(-1))) then (Max.max ((x0.people.getD x1.woman.toNat default).died) 0,!decide (((x0.people.getD x1.woman.toNat default).died)=(-1))) else (bif (decide (((x0.people.getD x1.woman.toNat default).died)=(-1))) then ((x0.people.getD x1.man.toNat default).died,true) else (Min.min ((x0.people.getD x1.man.toNat default).died) ((x0.people.getD x1.woman.toNat default).died),true)))
def A131 (x0:Family) (x1:Union):Ann:=r0 1 [2,3,4,5] [2,3] (r0 1 [2,3,4,5,10] [2,3] (cn (!decide (x1.to=(-1))) (r0 1 [2,3,4,5] [2,3] (rt [] (C131 (x1.to,true)))) (r1 1 [4,5,6,7] [] [pf (0≤(x1.man:Int)∧(x1.man:Int)<((x0.people.length:Nat):Int)),pf (0≤(x1.woman:Int)∧(x1.woman:Int)<((x0.people.length:Nat):Int))] [0,4] (r0 1 [4,5,6,7,27] [] (cn (decide (((x0.people.getD x1.man.toNat default).died)=(-1))) (r0 1 [4,5,6,7] [] (rt [] (C131 (Max.max ((x0.people.getD x1.woman.toNat default).died) 0,!decide (((x0.people.getD x1.woman.toNat default).died)=(-1)))))) (r0 1 [4,5,6,7,34] [] (cn (decide (((x0.people.getD x1.woman.toNat default).died)=(-1))) (r0 1 [4,5,6,7] [] (rt [] (C131 ((x0.people.getD x1.man.toNat default).died,true)))) (r0 1 [4,5] [] (rt [] (C131 (Min.min ((x0.people.getD x1.man.toNat default).died) ((x0.people.getD x1.woman.toNat default).died),true)))))))))))
theorem zl9 (x0:Family) (x1:Union) (hx:x0.people.length≤1048576) (hm:0≤x1.man∧x1.man<x0.people.length) (hw:0≤x1.woman∧x1.woman<x0.people.length):FnT Tryz.prog 131 [.agg (zbx false x0),.agg (zb4 false x1)] (C131 (zdp x0 x1)):=by
 have aux:∀ R,zdp x0 x1=R→slim (C131 R) (A131 x0 x1) []:=by
  intro R hR
  refine rg trivial ?_
  refine rg trivial ?_
  revert hR;refine cd (fun hc1 hR=>?_) fun hc1 hR=>?_
  ·
    refine rg trivial ?_
    exact congrArg C131 hR
  ·
    refine rg ⟨by trivial,by trivial,trivial⟩ ?_
    refine rg trivial ?_
    revert hR;refine cd (fun hc2 hR=>?_) fun hc2 hR=>?_
    ·
      refine rg trivial ?_
      exact congrArg C131 hR
    ·
      refine rg trivial ?_
      revert hR;refine cd (fun hc3 hR=>?_) fun hc3 hR=>?_
      ·
        refine rg trivial ?_
        exact congrArg C131 hR
      ·
        refine rg trivial ?_
        exact congrArg C131 hR
 exact Fn.go 41 Tryz.func131 zah zah (by simp [C131,Frs,FrsL]) (A131 x0 x1) zah (aux _ rfl)
def k131 (x0:Family) (x1:Union):Cl:=(hres (C131 (zdp x0 x1)),k3 (zl9 x0 x1))
def l1End (x0:Family) (x1:Union):Int×Bool:=bif (decide (0≤x1.to)) then (x1.to,true) else (bif ((decide (((x0.people.getD x1.man.toNat default).died)<0))&&(decide (((x0.people.getD x1.woman.toNat default).died)<0))) then (0,false) else (bif ((decide (((x0.people.getD x1.man.toNat default).died)<0))||((decide (0≤((x0.people.getD x1.woman.toNat default).died)))&&(decide (((x0.people.getD x1.woman.toNat default).died)<((x0.people.getD x1.man.toNat default).died))))) then ((x0.people.getD x1.woman.toNat default).died,true) else ((x0.people.getD x1.man.toNat default).died,true)))
def C104 (R:Int):LV×List (Nat×BC):=(.int .i64 R,[])
def up (x0:Family) (x1:Int) (x2:Int):Int:=bif (decide (x2=1)) then ((x0.people.getD x1.toNat default).father) else ((x0.people.getD x1.toNat default).mother)
def A104 (x0:Family) (x1:Int) (x2:Int):Ann:=r0 1 [1,2,3,6] [3] (r0 1 [1,3,6,8] [3] (cn (decide (x2=1)) (r1 1 [1,3,6] [3] [pf (0≤(x1:Int)∧(x1:Int)<((x0.people.length:Nat):Int))] [0] (rt [] (C104 ((x0.people.getD x1.toNat default).father)))) (r1 1 [6] [] [pf (0≤(x1:Int)∧(x1:Int)<((x0.people.length:Nat):Int))] [0] (rt [] (C104 ((x0.people.getD x1.toNat default).mother))))))
theorem zv6 (x0:Family) (x1:Int) (x2:Int) (hx:x0.people.length≤1048576) (h1:0≤x1∧x1<x0.people.length):FnT Tryz.prog 104 [.agg (zbx false x0),.int .i64 x1,.int .i64 x2] (C104 (up x0 x1 x2)):=by
 have aux:∀ R,up x0 x1 x2=R→slim (C104 R) (A104 x0 x1 x2) []:=by
  intro R hR
  refine rg trivial ?_
  refine rg trivial ?_
  revert hR;refine cd (fun hc1 hR=>?_) fun hc1 hR=>?_
  ·
    refine rg ⟨by trivial,trivial⟩ ?_
    exact congrArg C104 hR
  ·
    refine rg ⟨by trivial,trivial⟩ ?_
    exact congrArg C104 hR
 exact Fn.go 21 Tryz.func104 zah zah (by simp [C104,Frs,FrsL]) (A104 x0 x1 x2) zah (aux _ rfl)
def k104 (x0:Family) (x1:Int) (x2:Int):Cl:=(hres (C104 (up x0 x1 x2)),k2 (zv6 x0 x1 x2))
def C99 (R:Bool):LV×List (Nat×BC):=(.bool R,[])
def zc9 (x0:Person) (x1:Int):Bool:=(decide (x1<x0.born))||((!decide (x0.died=(-1)))&&(decide (x0.died<x1)))
def A99 (x0:Person) (x1:Int):Ann:=.reg 2 [] [] [4] [] [!(decide (x1<x0.born)),(!(decide (x1<x0.born)))&&(!decide (x0.died=(-1))),decide (x1<x0.born)] [gt (!(decide (x1<x0.born))) (gt (!decide (x0.died=(-1))) (pf (((!(decide (x1<x0.born)))&&(!decide (x0.died=(-1))))=true)))] [] [1,1,1,5,5,5,1,0,10] (rt [] (C99 ((decide (x1<x0.born))||((!decide (x0.died=(-1)))&&(decide (x0.died<x1))))))
theorem zk7 (x0:Person) (x1:Int):FnT Tryz.prog 99 [.agg (zbq false x0),.int .i64 x1] (C99 (zc9 x0 x1)):=by
 have aux:∀ R,zc9 x0 x1=R→slim (C99 R) (A99 x0 x1) []:=by
  intro R hR
  refine rg ⟨by ((try clear hR);intros;(try simp only [decide_eq_true_eq,decide_eq_false_iff_not,Bool.or_eq_true,Bool.and_eq_true,zbd,za9,zba,Bool.not_eq_true',inR] at *);(repeat' apply And.intro)<;>(intros;omega)),trivial⟩ ?_
  exact congrArg C99 hR
 exact Fn.go 20 Tryz.func99 zah zah (by simp [C99,Frs,FrsL]) (A99 x0 x1) zah (aux _ rfl)
def k99 (x0:Person) (x1:Int):Cl:=(hres (C99 (zc9 x0 x1)),k0 (zk7 x0 x1))
def zxt (x0:Person) (x1:Int):Bool:=(decide (x1<x0.born))||((!decide (x0.died=(-1)))&&(decide (x0.died<x1)))
def C96 (R:Bool):LV×List (Nat×BC):=(.bool R,[])
def lawIn (x0:Int) (x1:Int) (x2:Int):Bool:=(decide (x1≤x0))&&(decide (x0≤x2))
def A96 (x0:Int) (x1:Int) (x2:Int):Ann:=.reg 2 [] [] [6] [] [decide (x1≤x0)] [] [] [1,1,1] (rt [] (C96 ((decide (x1≤x0))&&(decide (x0≤x2)))))
theorem zns (x0:Int) (x1:Int) (x2:Int):FnT Tryz.prog 96 [.int .i64 x0,.int .i64 x1,.int .i64 x2] (C96 (lawIn x0 x1 x2)):=by
 have aux:∀ R,lawIn x0 x1 x2=R→slim (C96 R) (A96 x0 x1 x2) []:=by
  intro R hR
  refine rg trivial ?_
  exact congrArg C96 hR
 exact Fn.go 15 Tryz.func96 zah zah (by simp [C96,Frs,FrsL]) (A96 x0 x1 x2) zah (aux _ rfl)
def k96 (x0:Int) (x1:Int) (x2:Int):Cl:=(hres (C96 (lawIn x0 x1 x2)),k0 (zns x0 x1 x2))
def C52 (R:Bool):LV×List (Nat×BC):=(.bool R,[])
def zfc (x0:Law):Bool:=(((((lawIn x0.degree 0 20)&&(lawIn x0.affinity 0 20))&&(lawIn x0.canon 0 10))&&(lawIn x0.age 0 99))&&(lawIn x0.wives 1 9))&&(lawIn x0.husbands 1 9)
def A52 (x0:Law):Ann:=.reg 3 [] [(2003,k96 x0.degree 0 20),(2008,cg (lawIn x0.degree 0 20) (k96 x0.affinity 0 20)),(2014,cg ((lawIn x0.degree 0 20)&&(lawIn x0.affinity 0 20)) (k96 x0.canon 0 10)),(2020,cg (((lawIn x0.degree 0 20)&&(lawIn x0.affinity 0 20))&&(lawIn x0.canon 0 10)) (k96 x0.age 0 99)),(2026,cg ((((lawIn x0.degree 0 20)&&(lawIn x0.affinity 0 20))&&(lawIn x0.canon 0 10))&&(lawIn x0.age 0 99)) (k96 x0.wives 1 9)),(2032,cg (((((lawIn x0.degree 0 20)&&(lawIn x0.affinity 0 20))&&(lawIn x0.canon 0 10))&&(lawIn x0.age 0 99))&&(lawIn x0.wives 1 9)) (k96 x0.husbands 1 9))] [2] [] [lawIn x0.degree 0 20,(lawIn x0.degree 0 20)&&(lawIn x0.affinity 0 20),((lawIn x0.degree 0 20)&&(lawIn x0.affinity 0 20))&&(lawIn x0.canon 0 10),(((lawIn x0.degree 0 20)&&(lawIn x0.affinity 0 20))&&(lawIn x0.canon 0 10))&&(lawIn x0.age 0 99),((((lawIn x0.degree 0 20)&&(lawIn x0.affinity 0 20))&&(lawIn x0.canon 0 10))&&(lawIn x0.age 0 99))&&(lawIn x0.wives 1 9)] [] [] [0,1,1,1,4,1,5,5,5,8,5,9,9,9,12,9,13,13,13,16,13,17,17,17,20,17] (rt [] (C52 ((((((lawIn x0.degree 0 20)&&(lawIn x0.affinity 0 20))&&(lawIn x0.canon 0 10))&&(lawIn x0.age 0 99))&&(lawIn x0.wives 1 9))&&(lawIn x0.husbands 1 9))))
theorem zrh (x0:Law):FnT Tryz.prog 52 [.agg (cLaw false x0)] (C52 (zfc x0)):=by
 have aux:∀ R,zfc x0=R→slim (C52 R) (A52 x0) []:=by
  intro R hR
  refine rg ⟨trivial,fun hg0=>trivial,fun hg0=>trivial,fun hg0=>trivial,fun hg0=>trivial,fun hg0=>trivial,trivial⟩ ?_
  exact congrArg C52 hR
 exact Fn.go 38 Tryz.func52 zah zah (by simp [C52,Frs,FrsL]) (A52 x0) zah (aux _ rfl)
def k52 (x0:Law):Cl:=(hres (C52 (zfc x0)),k0 (zrh x0))
def ze8 (x0:Law):Bool:=(((((l1In x0.degree 0 20)&&(l1In x0.canon 0 10))&&(l1In x0.affinity 0 20))&&(l1In x0.age 0 99))&&(l1In x0.wives 1 9))&&(l1In x0.husbands 1 9)
def zj8 (x0:List Bool):(List Int):=loopN (fun i1 (v1:(List Int)) next=>bif (x0.getD i1 default) then (next (v1++[((i1:Nat):Int)])) else (next v1)) (fun (v1:(List Int))=>v1) x0.length 0 ([]:List Int)
theorem zsy (l:List Bool):(zj8 l).length≤l.length:=by
 unfold zj8
 exact zb3 (fun i (v:List Int)=>v.length≤i) (fun (r:List Int)=>r.length≤l.length) zaj (fun i v next hi hv hn=>zbm (p:=fun (r:List Int)=>r.length≤l.length) (fun _=>hn _ (by simp;omega)) (fun _=>hn _ om)) (fun v hv=>hv)
theorem up_lt {x:Family} (hf:za4 x=true) {sex p:Int} (hp:0≤p∧p<x.people.length):up x p sex<p:=by
 have:=fam_p hf (k:=p.toNat) om
 have h1:=this.fa
 have h2:=this.mo
 unfold up
 exact zbm (p:=fun (r:Int)=>r<p) (fun _=>by omega) (fun _=>by omega)
theorem zxq {x:Family} (hf:za4 x=true) {a b:Int} (ha:0≤a∧a<x.people.length) (hb:0≤b∧b<x.people.length):(0≤(zde x a b).1∧(zde x a b).1≤x.people.length)∧0≤(zde x a b).2.1∧(zde x a b).2.1≤x.people.length:=by
 rw [znz x a b hf ha hb]
 exact zqq x a b
theorem zzf (l:Law):zfc l=ze8 l:=by
 unfold zfc ze8 lawIn l1In
 rw [Bool.eq_iff_iff]
 simp only [Bool.and_eq_true,decide_eq_true_eq]
 omega
theorem zqr {l:Law} (h:ze8 l=true):0≤l.age∧l.age≤99:=by
 unfold ze8 l1In at h
 simp only [Bool.and_eq_true,decide_eq_true_eq] at h
 omega
def C100 (R:(List Int)):LV×List (Nat×BC):=(.own 0,[(0,.arr 1 R.length (rowOf (cInt .i64) R))])
def zdt (x0:Family) (x1:Int) (x2:Int):(List Int):=loopN (fun i1 (v1:(List Int)) nx1=>bif ((decide ((other (x0.unions.getD i1 default) x1)<0))||(decide (x2<((x0.unions.getD i1 default).from0)))) then (nx1 v1) else (bif ((!((zdp x0 (x0.unions.getD i1 default)).2))||(decide (x2<((zdp x0 (x0.unions.getD i1 default)).1)))) then (nx1 (v1++[other (x0.unions.getD i1 default) x1])) else (nx1 v1))) (fun (v1:(List Int))=>v1) x0.unions.length 0 ([]:List Int)
def ztn (x0:Family) (x1:Int) (x2:Int) (i1:Nat) (v1:(List Int)):Dl:=⟨[(16,.int .i64 ((i1:Nat):Int)),(7,.own 20007)],[(20007,.arr 1 v1.length (rowOf (cInt .i64) v1))]⟩
def A100b1 (x0:Family) (x1:Int) (x2:Int) (i1:Nat) (v1:(List Int)):Ann:=r0 1 [1,2,3,6,7,14,15,16,17] [3,20007] (cn (decide (((i1:Nat):Int)<((x0.unions.length:Nat):Int))) (.reg 2 [] [(1002,k98 (x0.unions.getD i1 default) x1)] [1,2,3,6,7,9,10,14,15,16] [3,9,20007] [] [pf (0≤(((i1:Nat):Int):Int)∧(((i1:Nat):Int):Int)<((x0.unions.length:Nat):Int))] [] [0,4] (.reg 1 [] [] [1,2,3,6,7,9,10,14,15,16,30] [3,9,20007] [!(decide ((other (x0.unions.getD i1 default) x1)<0)),decide ((other (x0.unions.getD i1 default) x1)<0)] [] [] [1,1,1,6] (cn ((decide ((other (x0.unions.getD i1 default) x1)<0))||(decide (x2<((x0.unions.getD i1 default).from0)))) (r1 1 [1,2,3,6,7,14,15,16] [3,20007] [pf (inR .i64 (((i1:Nat):Int)+1))] [0] (.next 0 [(20007,some 20007)] (ztn x0 x1 x2 (i1+1) v1))) (.reg 2 [] [(2,k131 x0 (x0.unions.getD i1 default))] [1,2,3,6,7,10,14,15,16,43] [3,20007] [!(!((zdp x0 (x0.unions.getD i1 default)).2)),!((zdp x0 (x0.unions.getD i1 default)).2)] [] [] [0,1,1,6] (cn ((!((zdp x0 (x0.unions.getD i1 default)).2))||(decide (x2<((zdp x0 (x0.unions.getD i1 default)).1)))) (.reg 1 [] [(2,bsC 46 (cInt .i64) ([other (x0.unions.getD i1 default) x1]:List Int)),(3,ap1 47 (cInt .i64) 8 v1 (other (x0.unions.getD i1 default) x1))] [1,2,3,6,7,14,15,16] [3,47] [] [] [] [0,4] (r1 1 [1,2,3,6,7,14,15,16] [3,47] [pf (inR .i64 (((i1:Nat):Int)+1))] [0] (.next 0 [(20007,some 47)] (ztn x0 x1 x2 (i1+1) (v1++[other (x0.unions.getD i1 default) x1]))))) (r1 1 [1,2,3,6,7,14,15,16] [3,20007] [pf (inR .i64 (((i1:Nat):Int)+1))] [0] (.next 0 [(20007,some 20007)] (ztn x0 x1 x2 (i1+1) v1)))))))) (r0 1 [6] [20007] (rt [(0,some 20007)] (C100 v1))))
def A100 (x0:Family) (x1:Int) (x2:Int):Ann:=r0 2 [1,2,3,6,7] [3] (r0 1 [1,2,3,6,7,14,15,16] [3] (lp (ztn x0 x1 x2) [] [] [(20007,none)] (ztn x0 x1 x2 0 ([]:List Int)) (A100b1 x0 x1 x2)))
theorem zk6 (x0:Family) (x1:Int) (x2:Int) (hx:x0.people.length≤1048576) (hf:za4 x0=true):FnT Tryz.prog 100 [.agg (zbx false x0),.int .i64 x1,.int .i64 x2] (C100 (zdt x0 x1 x2)):=by
 have aux:∀ R,zdt x0 x1 x2=R→slim (C100 R) (A100 x0 x1 x2) []:=by
  intro R hR
  refine rg trivial ?_
  refine rg trivial ?_
  revert hR;refine lN (fun i v=>v.length≤i) zai rfl fun i1 v1 F1 hn1 hI1 hR hK1=>?_
  refine rg trivial ?_
  refine ⟨fun hc1=>?_,fun hc1=>?_⟩
  ·have hii1:i1<x0.unions.length:=by have:=of_decide_eq_true hc1;omega
   replace hR:=zbj hR hii1
   refine rg ⟨by (intros;omega),trivial,trivial⟩ ?_
   have hp1:=zjw (x0.unions.getD i1 default) x1
   refine rg trivial ?_
   revert hR;refine cd (fun hc2 hR=>?_) fun hc2 hR=>?_
   ·
     refine rg ⟨by ((try clear hR hK1);intros;(try simp only [decide_eq_true_eq,decide_eq_false_iff_not,Bool.or_eq_true,Bool.and_eq_true,zbd,za9,zba,Bool.not_eq_true',inR] at *);(repeat' apply And.intro)<;>(first | (intros;omega) | (have hn9:=fam_n hf;have hu9:=fam_u hf (k:=i1) hii1;have h91:=hu9.man;have h92:=hu9.woman;have h93:=hu9.from0;have h94:=hu9.to;omega))),trivial⟩ ?_
     exact hK1 v1 hii1 za2 hR
   ·
     refine rg ⟨⟨by trivial,by (have hn9:=fam_n hf;have hu9:=fam_u hf (k:=i1) hii1;have h91:=hu9.man;have h92:=hu9.woman;have h93:=hu9.from0;have h94:=hu9.to;omega),by (have hn9:=fam_n hf;have hu9:=fam_u hf (k:=i1) hii1;have h91:=hu9.man;have h92:=hu9.woman;have h93:=hu9.from0;have h94:=hu9.to;omega)⟩,trivial⟩ ?_
     revert hR;refine cd (fun hc3 hR=>?_) fun hc3 hR=>?_
     ·
       refine rg ⟨trivial,by (have hn9:=fam_n hf;have hu9:=fam_u hf (k:=i1) hii1;have h91:=hu9.man;have h92:=hu9.woman;have h93:=hu9.from0;have h94:=hu9.to;omega),trivial⟩ ?_
       refine rg ⟨by ((try clear hR hK1);intros;(try simp only [decide_eq_true_eq,decide_eq_false_iff_not,Bool.or_eq_true,Bool.and_eq_true,zbd,za9,zba,Bool.not_eq_true',inR] at *);(repeat' apply And.intro)<;>(first | (intros;omega) | (have hn9:=fam_n hf;have hu9:=fam_u hf (k:=i1) hii1;have h91:=hu9.man;have h92:=hu9.woman;have h93:=hu9.from0;have h94:=hu9.to;omega))),trivial⟩ ?_
       exact hK1 (v1++[other (x0.unions.getD i1 default) x1]) hii1 (by (have hn9:=fam_n hf;have hu9:=fam_u hf (k:=i1) hii1;have h91:=hu9.man;have h92:=hu9.woman;have h93:=hu9.from0;have h94:=hu9.to;(try simp only [decide_eq_true_eq,decide_eq_false_iff_not,List.length_append,List.length_set,List.length_cons,List.length_nil,List.length_replicate] at *);omega)) hR
     ·
       refine rg ⟨by ((try clear hR hK1);intros;(try simp only [decide_eq_true_eq,decide_eq_false_iff_not,Bool.or_eq_true,Bool.and_eq_true,zbd,za9,zba,Bool.not_eq_true',inR] at *);(repeat' apply And.intro)<;>(first | (intros;omega) | (have hn9:=fam_n hf;have hu9:=fam_u hf (k:=i1) hii1;have h91:=hu9.man;have h92:=hu9.woman;have h93:=hu9.from0;have h94:=hu9.to;omega))),trivial⟩ ?_
       exact hK1 v1 hii1 za2 hR
  ·obtain rfl:i1=x0.unions.length:=by have:=of_decide_eq_false hc1;omega
   replace hR:=zbp hR (Nat.lt_irrefl _)
   refine rg trivial ?_
   exact congrArg C100 hR
 exact Fn.go 50 Tryz.func100 zah zah (by simp [C100,Frs,FrsL,FrsB,rowOf,cInt,cBool,cStr,cSl,zce,zbq,zb4,zbx,cDyad,cLaw]) (A100 x0 x1 x2) zah (aux _ rfl)
def k100 (x0:Family) (x1:Int) (x2:Int):Cl:=(hres (C100 (zdt x0 x1 x2)),k2 (zk6 x0 x1 x2))
def ze3 (x0:Family) (x1:Int) (x2:Int):(List Int):=bif (!(l1Has x0 x1)) then ([]:List Int) else (loopN (fun i1 (v1:(List Int)) next=>bif ((((zcu (x0.unions.getD i1 default) x1).2)&&(decide (((x0.unions.getD i1 default).from0)≤x2)))&&((!((l1End x0 (x0.unions.getD i1 default)).2))||(decide (x2<((l1End x0 (x0.unions.getD i1 default)).1))))) then (next (v1++[(zcu (x0.unions.getD i1 default) x1).1])) else (next v1)) (fun (v1:(List Int))=>v1) x0.unions.length 0 ([]:List Int))
def C55 (R:Int):LV×List (Nat×BC):=(.int .i64 R,[])
def zct (x0:Family) (x1:Int) (x2:Int):Int:=loopW (fun (v1:Int) next=>bif (decide (0≤(up x0 v1 x2))) then (next (up x0 v1 x2)) else v1) ((x1+1).toNat+1) x1
def D55b1 (x0:Family) (x1:Int) (x2:Int) (v1:Int):Dl:=⟨[(1,.int .i64 v1)],[]⟩
def A55b1 (x0:Family) (x1:Int) (x2:Int) (v1:Int):Ann:=.reg 1 [] [(3,k104 x0 v1 x2)] [1,2,3,6,11] [3] [] [] [] [0] (cn (decide (0≤(up x0 v1 x2))) (.reg 1 [] [(3,k104 x0 v1 x2)] [1,2,3,6] [3] [] [] [] [0] (.next 0 [] (D55b1 x0 x1 x2 (up x0 v1 x2)))) (r0 1 [6] [] (rt [] (C55 v1))))
def A55 (x0:Family) (x1:Int) (x2:Int):Ann:=r0 1 [1,2,3,6] [3] (.loop Int (D55b1 x0 x1 x2) [] [] [] (D55b1 x0 x1 x2 x1) (A55b1 x0 x1 x2))
theorem znp (x0:Family) (x1:Int) (x2:Int) (hx:x0.people.length≤1048576) (hf:za4 x0=true) (h1:0≤x1∧x1<x0.people.length):FnT Tryz.prog 55 [.agg (zbx false x0),.int .i64 x1,.int .i64 x2] (C55 (zct x0 x1 x2)):=by
 have aux:∀ R,zct x0 x1 x2=R→slim (C55 R) (A55 x0 x1 x2) []:=by
  intro R hR
  refine rg trivial ?_
  revert hR;refine lW (fun v=>0≤v∧v<x0.people.length) (fun v=>(v+1).toNat) zai (Nat.lt_succ_self _) rfl fun m1 v1 F1 hI1 hM1 hR hK1=>?_
  refine rg ⟨⟨by trivial,by trivial⟩,trivial⟩ ?_
  revert hR;refine cd (fun hc1 hR=>?_) fun hc1 hR=>?_
  ·
    refine rg ⟨⟨by trivial,by trivial⟩,trivial⟩ ?_
    exact hK1 (up x0 v1 x2) (by (have h9:=up_lt hf (sex:=x2) hI1;have h8:=of_decide_eq_true hc1;omega)) (by (have h9:=up_lt hf (sex:=x2) hI1;omega)) hR
  ·
    refine rg trivial ?_
    exact congrArg C55 hR
 exact Fn.go 17 Tryz.func55 zah zah (by simp [C55,Frs,FrsL]) (A55 x0 x1 x2) zah (aux _ rfl)
def k55 (x0:Family) (x1:Int) (x2:Int):Cl:=(hres (C55 (zct x0 x1 x2)),k3 (znp x0 x1 x2))
def zha (x0:Family) (x1:Int) (x2:Int):Int:=loopW (fun (v1:Int) next=>bif (decide (x2=2)) then (bif (decide (((x0.people.getD v1.toNat default).mother)<0)) then v1 else (next ((x0.people.getD v1.toNat default).mother))) else (bif (decide (((x0.people.getD v1.toNat default).father)<0)) then v1 else (next ((x0.people.getD v1.toNat default).father)))) ((x1+1).toNat+1) x1
def C102 (R:Bool):LV×List (Nat×BC):=(.bool R,[])
def zer (x0:Family) (x1:Int) (x2:Int) (x3:Int):Bool:=((zde x0 x1 x2).2.2)&&(decide ((((zde x0 x1 x2).1)+((zde x0 x1 x2).2.1))≤x3))
def A102 (x0:Family) (x1:Int) (x2:Int) (x3:Int):Ann:=.reg 3 [] [(1003,k46 x0 x1 x2)] [8] [] [(zde x0 x1 x2).2.2] [gt ((zde x0 x1 x2).2.2) (pf (inR .i64 (((zde x0 x1 x2).1)+((zde x0 x1 x2).2.1))))] [] [4,1,1,0,1,1,1] (rt [] (C102 (((zde x0 x1 x2).2.2)&&(decide ((((zde x0 x1 x2).1)+((zde x0 x1 x2).2.1))≤x3)))))
theorem zmd (x0:Family) (x1:Int) (x2:Int) (x3:Int) (hx:x0.people.length≤1048576) (hf:za4 x0=true) (h1:0≤x1∧x1<x0.people.length) (h2:0≤x2∧x2<x0.people.length):FnT Tryz.prog 102 [.agg (zbx false x0),.int .i64 x1,.int .i64 x2,.int .i64 x3] (C102 (zer x0 x1 x2 x3)):=by
 have aux:∀ R,zer x0 x1 x2 x3=R→slim (C102 R) (A102 x0 x1 x2 x3) []:=by
  intro R hR
  refine rg ⟨by (have h9:=zxq hf h1 h2;have hn9:=fam_n hf;simp only [inR];omega),⟨by trivial,by trivial,by trivial,by (exact zbn x0 hf)⟩,trivial⟩ ?_
  exact congrArg C102 hR
 exact Fn.go 28 Tryz.func102 zah zah (by simp [C102,Frs,FrsL]) (A102 x0 x1 x2 x3) zah (aux _ rfl)
def k102 (x0:Family) (x1:Int) (x2:Int) (x3:Int):Cl:=(hres (C102 (zer x0 x1 x2 x3)),k4 (zmd x0 x1 x2 x3))
def zho (x0:Family) (x1:Int) (x2:Int) (x3:Int):Bool:=((zjr x0 x1 x2).2)&&(decide (((zjr x0 x1 x2).1)≤x3))
def C103 (R:Bool):LV×List (Nat×BC):=(.bool R,[])
def zdl (x0:Family) (x1:Law) (x2:Int) (x3:Int) (x4:Int):Bool:=loopN (fun i1 (v1:Unit) next=>bif ((((decide (((x0.unions.getD i1 default).from0)≤x4))&&(decide (0≤(other (x0.unions.getD i1 default) x2))))&&(!decide ((other (x0.unions.getD i1 default) x2)=x3)))&&(zer x0 (other (x0.unions.getD i1 default) x2) x3 x1.affinity)) then true else (next ())) (fun (v1:Unit)=>false) x0.unions.length 0 ()
def zyu (x0:Family) (x1:Law) (x2:Int) (x3:Int) (x4:Int) (i1:Nat) (v1:Unit):Dl:=⟨[(17,.int .i64 ((i1:Nat):Int))],[]⟩
def A103b1 (x0:Family) (x1:Law) (x2:Int) (x3:Int) (x4:Int) (i1:Nat) (v1:Unit):Ann:=r0 1 [2,3,4,5,6,10,15,16,17,18] [5,6] (cn (decide (((i1:Nat):Int)<((x0.unions.length:Nat):Int))) (.reg 3 [] [(1002,k98 (x0.unions.getD i1 default) x2),(2019,cg (((decide (((x0.unions.getD i1 default).from0)≤x4))&&(decide (0≤(other (x0.unions.getD i1 default) x2))))&&(!decide ((other (x0.unions.getD i1 default) x2)=x3))) (k102 x0 (other (x0.unions.getD i1 default) x2) x3 x1.affinity))] [2,3,4,5,6,10,15,16,17,44] [5,6] [decide (((x0.unions.getD i1 default).from0)≤x4),(decide (((x0.unions.getD i1 default).from0)≤x4))&&(decide (0≤(other (x0.unions.getD i1 default) x2))),((decide (((x0.unions.getD i1 default).from0)≤x4))&&(decide (0≤(other (x0.unions.getD i1 default) x2))))&&(!decide ((other (x0.unions.getD i1 default) x2)=x3))] [pf (0≤(((i1:Nat):Int):Int)∧(((i1:Nat):Int):Int)<((x0.unions.length:Nat):Int))] [] [0,4,1,1,5,5,5,9,9,9,9,9,8,9] (cn ((((decide (((x0.unions.getD i1 default).from0)≤x4))&&(decide (0≤(other (x0.unions.getD i1 default) x2))))&&(!decide ((other (x0.unions.getD i1 default) x2)=x3)))&&(zer x0 (other (x0.unions.getD i1 default) x2) x3 x1.affinity)) (r0 1 [2,3,4,5,6,10,15,16,17] [5,6] (rt [] (C103 true))) (r1 1 [2,3,4,5,6,10,15,16,17] [5,6] [pf (inR .i64 (((i1:Nat):Int)+1))] [0] (.next 0 [] (zyu x0 x1 x2 x3 x4 (i1+1) ()))))) (r0 1 [10] [] (rt [] (C103 false))))
def A103 (x0:Family) (x1:Law) (x2:Int) (x3:Int) (x4:Int):Ann:=r0 1 [2,3,4,5,6,10] [5,6] (r0 1 [2,3,4,5,6,10,15,16,17] [5,6] (lp (zyu x0 x1 x2 x3 x4) [] [] [] (zyu x0 x1 x2 x3 x4 0 ()) (A103b1 x0 x1 x2 x3 x4)))
theorem zmc (x0:Family) (x1:Law) (x2:Int) (x3:Int) (x4:Int) (hx:x0.people.length≤1048576) (hf:za4 x0=true) (h2:0≤x2∧x2<x0.people.length) (h3:0≤x3∧x3<x0.people.length):FnT Tryz.prog 103 [.agg (zbx false x0),.agg (cLaw false x1),.int .i64 x2,.int .i64 x3,.int .i64 x4] (C103 (zdl x0 x1 x2 x3 x4)):=by
 have aux:∀ R,zdl x0 x1 x2 x3 x4=R→slim (C103 R) (A103 x0 x1 x2 x3 x4) []:=by
  intro R hR
  refine rg trivial ?_
  refine rg trivial ?_
  revert hR;refine lN (fun i v=>True) zai rfl fun i1 v1 F1 hn1 hI1 hR hK1=>?_
  refine rg trivial ?_
  refine ⟨fun hc1=>?_,fun hc1=>?_⟩
  ·have hii1:i1<x0.unions.length:=by have:=of_decide_eq_true hc1;omega
   replace hR:=zbj hR hii1
   refine rg ⟨by (intros;omega),trivial,fun hg0=>⟨by trivial,by trivial,by (have hn9:=fam_n hf;have hu9:=fam_u hf (k:=i1) hii1;have h91:=hu9.man;have h92:=hu9.woman;have h93:=hu9.from0;have h94:=hu9.to;have h9:=zjw (x0.unions.getD i1 default) x2;simp only [decide_eq_true_eq,decide_eq_false_iff_not,Bool.and_eq_true,Bool.or_eq_true,zba] at *;omega),by trivial⟩,trivial⟩ ?_
   have hp1:=zjw (x0.unions.getD i1 default) x2
   revert hR;refine cd (fun hc2 hR=>?_) fun hc2 hR=>?_
   ·
     refine rg trivial ?_
     exact congrArg C103 hR
   ·
     refine rg ⟨by ((try clear hR hK1);intros;(try simp only [decide_eq_true_eq,decide_eq_false_iff_not,Bool.or_eq_true,Bool.and_eq_true,zbd,za9,zba,Bool.not_eq_true',inR] at *);(repeat' apply And.intro)<;>(first | (intros;omega) | (have hn9:=fam_n hf;omega))),trivial⟩ ?_
     exact hK1 () hii1 zai hR
  ·obtain rfl:i1=x0.unions.length:=by have:=of_decide_eq_false hc1;omega
   replace hR:=zbp hR (Nat.lt_irrefl _)
   refine rg trivial ?_
   exact congrArg C103 hR
 exact Fn.go 46 Tryz.func103 zah zah (by simp [C103,Frs,FrsL]) (A103 x0 x1 x2 x3 x4) zah (aux _ rfl)
def k103 (x0:Family) (x1:Law) (x2:Int) (x3:Int) (x4:Int):Cl:=(hres (C103 (zdl x0 x1 x2 x3 x4)),k4 (zmc x0 x1 x2 x3 x4))
def zhp (x0:Family) (x1:Int) (x2:Int) (x3:Int) (x4:Int):Bool:=loopN (fun i1 (v1:Unit) next=>bif (((((zcu (x0.unions.getD i1 default) x1).2)&&(!decide (((zcu (x0.unions.getD i1 default) x1).1)=x2)))&&(decide (((x0.unions.getD i1 default).from0)≤x3)))&&(zho x0 ((zcu (x0.unions.getD i1 default) x1).1) x2 x4)) then true else (next ())) (fun (v1:Unit)=>false) x0.unions.length 0 ()
end Go.Proofs.YtaageiiodlfeiaaGreat
