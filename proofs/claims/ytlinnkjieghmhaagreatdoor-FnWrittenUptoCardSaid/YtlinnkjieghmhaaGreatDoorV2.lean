import Derived.Test.YtlinnkjieghmhaaGreatDoorProg
import Derived.Test.YtlinnkjieghmhaaGreatDoorLiteU
import Derived.KernelRfl
set_option maxHeartbeats 4000000
set_option linter.unusedSimpArgs false
set_option linter.unusedVariables false
namespace Go.Proofs.YtlinnkjieghmhaaGreatDoor
open Go Go.Lite Go.Proofs
theorem za7 {p:Prop} (h:p:=by decide):p:=h
theorem za6 {p:Prop} (h:p:=by trivial):p:=h
theorem za3 {p:Prop} (h:p:=by exact True.intro):p:=h
theorem za1 {p:Prop} (h:p:=by with_reducible assumption):p:=h
theorem zay {p:Prop} (h:p:=by have:=of_decide_eq_false hc;omega):p:=h
theorem zaw {p:Prop} (h:p:=by have h9:=fam_n (zc4 hf);omega):p:=h
theorem zat {p:Prop} (h:p:=by (simp only [List.length_append,List.length_singleton];omega)):p:=h
theorem zar {p:Prop} (h:p:=by (intros;omega)):p:=h
theorem zaq {p:Prop} (h:p:=by dsimp only;omega):p:=h
theorem zap {p:Prop} (h:p:=by ((try dsimp only);omega)):p:=h
theorem zao {p:Prop} (h:p:=by simp only [decide_eq_true_eq,decide_eq_false_iff_not,Bool.not_eq_true,Bool.not_eq_false];omega):p:=h
theorem zan {p:Prop} (h:p:=by (have h9:=(hk).2;intros;(try simp only [decide_eq_true_eq,decide_eq_false_iff_not,Bool.and_eq_true,Bool.not_eq_true',zba,inR] at *);first | done | omega)):p:=h
theorem zam {p:Prop} (h:p:=by (have h9:=(hJ6).2;intros;(try simp only [decide_eq_true_eq,decide_eq_false_iff_not,Bool.and_eq_true,Bool.not_eq_true',zba,inR] at *);first | done | omega)):p:=h
theorem zal {p:Prop} (h:p:=by (have h9:=(hJ5).2;intros;(try simp only [decide_eq_true_eq,decide_eq_false_iff_not,Bool.and_eq_true,Bool.not_eq_true',zba,inR] at *);first | done | omega)):p:=h
theorem zak {p:Prop} (h:p:=by (have h9:=(hk).2;refine ⟨by ((try dsimp only);intros;(try simp only [decide_eq_true_eq,decide_eq_false_iff_not,Bool.and_eq_true,Bool.not_eq_true',zba,inR] at *);first | done | omega),hk⟩)):p:=h
theorem zaj {p:Prop} (h:p:=by (have h9:=(hJ2).2;refine ⟨by ((try dsimp only);intros;(try simp only [decide_eq_true_eq,decide_eq_false_iff_not,Bool.and_eq_true,Bool.not_eq_true',zba,inR] at *);first | done | omega),hJ2⟩)):p:=h
theorem zai {p:Prop} (h:p:=by (have h9:=(hI1).2;intros;(try simp only [decide_eq_true_eq,decide_eq_false_iff_not,Bool.and_eq_true,Bool.not_eq_true',zba,inR] at *);exact (hI1).swp ⟨om,om⟩ ⟨om,om⟩)):p:=h
theorem zah {p:Prop} (h:p:=by (obtain ⟨h9,h1,h2,h3,h4⟩:=zc9 hc1 (i:=i1) om;have e1:=h9.a;have e2:=h9.b;have e3:=h9.year;have e4:=h9.name;(try simp only [List.length_append,List.length_cons,List.length_nil]);omega)):p:=h
theorem zag {p:Prop} (h:p:=by (have h9:=(hI3.2).2;refine ⟨by ((try dsimp only);intros;(try simp only [decide_eq_true_eq,decide_eq_false_iff_not,Bool.and_eq_true,Bool.not_eq_true',zba,inR] at *);first | done | omega),hI3.2⟩)):p:=h
theorem zaf {p:Prop} (h:p:=by (have h9:=(hI2.2).2;refine ⟨by ((try dsimp only);intros;(try simp only [decide_eq_true_eq,decide_eq_false_iff_not,Bool.and_eq_true,Bool.not_eq_true',zba,inR] at *);first | done | omega),hI2.2⟩)):p:=h
theorem zae {p:Prop} (h:p:=by (have h9:=(hI1.2).2;refine ⟨by ((try dsimp only);intros;(try simp only [decide_eq_true_eq,decide_eq_false_iff_not,Bool.and_eq_true,Bool.not_eq_true',zba,inR] at *);first | done | omega),hI1.2⟩)):p:=h
theorem zad {p:Prop} (h:p:=by ((try clear hR hK1);intros;(try simp only [decide_eq_true_eq,decide_eq_false_iff_not,Bool.or_eq_true,Bool.and_eq_true,zbd,zbb,zbc,Bool.not_eq_true',inR] at *);(repeat' apply And.intro)<;>(intros;omega))):p:=h
theorem zac {p:Prop} (h:p:=by (have h9:=(hI4.2).2;intros;(try simp only [decide_eq_true_eq,decide_eq_false_iff_not,Bool.and_eq_true,Bool.not_eq_true',zba,inR] at *);refine ⟨by ((try dsimp only);omega),(hI4.2).swp ⟨om,om⟩ ⟨om,om⟩⟩)):p:=h
theorem zab {p:Prop} (h:p:=by (have h9:=(hI2.2).2;intros;(try simp only [decide_eq_true_eq,decide_eq_false_iff_not,Bool.and_eq_true,Bool.not_eq_true',zba,inR] at *);refine ⟨by ((try dsimp only);omega),(hI2.2).swp ⟨om,om⟩ ⟨om,om⟩⟩)):p:=h
theorem zaa {p:Prop} (h:p:=by ((try clear hR hK1);intros;(try simp only [decide_eq_true_eq,decide_eq_false_iff_not,Bool.or_eq_true,Bool.and_eq_true,zbd,zbb,zbc,Bool.not_eq_true',inR] at *);(repeat' apply And.intro)<;>(first | (simp_all [inR];done) | grind [inR,zco,zcy,zgl,List.length_set,zi6]))):p:=h

structure ya where
 name:List UInt8
 sex:Int
 father:Int
 mother:Int
 born:Int
 died:Int
 deriving Inhabited
def zbg (fr:Bool) (x:ya):List LV:=cStr x.name++cInt .i64 x.sex++cInt .i64 x.father++cInt .i64 x.mother++cInt .i64 x.born++cInt .i64 x.died

structure yb where
 man:Int
 woman:Int
 from0:Int
 to:Int
 deriving Inhabited
def zbi (fr:Bool) (x:yb):List LV:=cInt .i64 x.man++cInt .i64 x.woman++cInt .i64 x.from0++cInt .i64 x.to

structure yc where
 people:List ya
 unions:List yb
 deriving Inhabited
def zcf (fr:Bool) (x:yc):List LV:=cSl fr 6 (zbg fr) x.people++cSl fr 4 (zbi fr) x.unions

def C98 (R:Bool):LV×List (Nat×BC):=(.bool R,[])
def l1In (x0:Int) (x1:Int) (x2:Int):Bool:=(decide (x1≤x0))&&(decide (x0≤x2))
def A98 (x0:Int) (x1:Int) (x2:Int):Ann:=.reg 2 [] [] [6] [] [decide (x1≤x0)] [] [] [1,1,1] (rt [] (C98 ((decide (x1≤x0))&&(decide (x0≤x2)))))
theorem zs5 (x0:Int) (x1:Int) (x2:Int):FnT Tryz.prog 98 [.int .i64 x0,.int .i64 x1,.int .i64 x2] (C98 (l1In x0 x1 x2)):=by
 have aux:∀ R,l1In x0 x1 x2=R→slim (C98 R) (A98 x0 x1 x2) []:=by
  intro R hR
  refine rg trivial ?_
  exact congrArg C98 hR
 exact Fn.go 15 Tryz.func98 (by kernel_rfl) (by kernel_rfl) (by simp [C98,Frs,FrsL]) (A98 x0 x1 x2) (by kernel_rfl) (aux _ rfl)
def k98 (x0:Int) (x1:Int) (x2:Int):Cl:=(hres (C98 (l1In x0 x1 x2)),k0 (zs5 x0 x1 x2))
def C97 (R:Bool):LV×List (Nat×BC):=(.bool R,[])
def zcp (x0:List UInt8):Bool:=loopN (fun i1 (v1:Unit) next=>bif ((decide (((x0.getD i1 0).toNat:Int)<97))||(decide (122<((x0.getD i1 0).toNat:Int)))) then false else (next ())) (fun (v1:Unit)=>l1In ((x0.length:Nat):Int) 1 12) x0.length 0 ()
def D97b1 (i1:Nat) (v1:Unit):Dl:=⟨[(3,.int .i64 ((i1:Nat):Int))],[]⟩
def A97b1 (x0:List UInt8) (i1:Nat) (v1:Unit):Ann:=let q3:=((x0.length:Nat):Int);let q1:=((x0.getD i1 0).toNat:Int);let q4:=decide (q1<97);let q2:=(0≤(((i1:Nat):Int):Int)∧(((i1:Nat):Int):Int)<q3);r0 1 [0,2,3,7] [] (cn (decide (((i1:Nat):Int)<q3)) (.reg 1 [] [] [0,2,3,19] [] [!q4,decide (q1<97)] [pf q2,gt (!q4) (pf q2)] [] [0,1,1,4,1,6] (cn (q4||(decide (122<q1))) (r0 1 [0,2,3] [] (rt [] (C97 false))) (r1 1 [0,2,3] [] [pf (inR .i64 (((i1:Nat):Int)+1))] [0] (.next 0 [] (D97b1 (i1+1) ()))))) (.reg 1 [] [(2,k98 q3 1 12)] [2] [] [] [] [] [0] (rt [] (C97 (l1In q3 1 12)))))
def A97 (x0:List UInt8):Ann:=r0 1 [0,2] [] (r0 1 [0,2,3] [] (lp (D97b1) [] [] [] (D97b1 0 ()) (A97b1 x0)))
theorem zp2 (x0:List UInt8) (hx:x0.length≤1048576):FnT Tryz.prog 97 [.str x0] (C97 (zcp x0)):=by
 have aux:∀ R,zcp x0=R→slim (C97 R) (A97 x0) []:=by
  intro R hR
  refine rg trivial ?_
  refine rg trivial ?_
  revert hR;refine lN (fun i v=>True) za6 rfl fun i1 v1 F1 hn1 hI1 hR hK1=>?_
  refine rg trivial ?_
  refine ⟨fun hc1=>?_,fun hc1=>?_⟩
  ·have hii1:i1<x0.length:=by have:=of_decide_eq_true hc1;omega
   replace hR:=zbq hR hii1
   refine rg ⟨by (intros;omega),by (intros;omega),trivial⟩ ?_
   revert hR;refine cd (fun hc2 hR=>?_) fun hc2 hR=>?_
   ·
     refine rg trivial ?_
     exact congrArg C97 hR
   ·
     refine rg ⟨by ( intros;simp only [inR];omega),trivial⟩ ?_
     exact hK1 () hii1 za6 hR
  ·obtain rfl:i1=x0.length:=by have:=of_decide_eq_false hc1;omega
   replace hR:=zbu hR (Nat.lt_irrefl _)
   refine rg ⟨trivial,trivial⟩ ?_
   exact congrArg C97 hR
 exact Fn.go 23 Tryz.func97 (by kernel_rfl) (by kernel_rfl) (by simp [C97,Frs,FrsL]) (A97 x0) (by kernel_rfl) (aux _ rfl)
def k97 (x0:List UInt8):Cl:=(hres (C97 (zcp x0)),k1 (zp2 x0))
def C99 (R:Bool):LV×List (Nat×BC):=(.bool R,[])
def zeg (x0:yc) (x1:Int) (x2:Int) (x3:Int) (x4:Int):Bool:=bif (decide (x2=(-1))) then true else (bif (((decide (x2<0))||(decide (x1≤x2)))||(!decide (((x0.people.getD x2.toNat default).sex)=x3))) then false else ((decide (((x0.people.getD x2.toNat default).born)<((x0.people.getD x1.toNat default).born)))&&((decide (((x0.people.getD x2.toNat default).died)=(-1)))||(decide (((x0.people.getD x1.toNat default).born)≤(IntKind.wrap .i64 (((x0.people.getD x2.toNat default).died)+x4)))))))
def A99 (x0:yc) (x1:Int) (x2:Int) (x3:Int) (x4:Int):Ann:=let q5:=x0.people.getD x2.toNat default;let q3:=(decide (x2<0))||(decide (x1≤x2));let q2:=decide ((q5.died)=(-1));let q4:=(0≤(x2:Int)∧(x2:Int)<((x0.people.length:Nat):Int));let q1:=(q5.born)<((x0.people.getD x1.toNat default).born);let q6:=decide q1;r0 1 [1,2,3,4,5,10] [5] (r0 1 [1,2,3,4,5,10,14] [5] (cn (decide (x2=(-1))) (r0 1 [1,2,3,4,5,10] [5] (rt [] (C99 true))) (.reg 1 [] [] [1,2,4,5,10,31] [5] [!(decide (x2<0)),decide (x2<0),!q3,(decide (x2<0))||(decide (x1≤x2))] [gt (!q3) (pf q4)] [] [1,1,6,9,9,9,0,9,9,9,9,14] (cn (q3||(!decide ((q5.sex)=x3))) (r0 1 [1,2,4,5,10] [5] (rt [] (C99 false))) (.reg 3 [(2013,.wrap)] [] [10] [] [decide q1,q6&&(!q2)] [pf q4,pf (0≤(x1:Int)∧(x1:Int)<((x0.people.length:Nat):Int)),gt q6 (gf q2 (pf ((q6&&(!q2))=true)))] [] [0,4,1,1,1,5,5,5,5,5,1,8,1] (rt [] (C99 (q6&&(q2||(decide (((x0.people.getD x1.toNat default).born)≤(IntKind.wrap .i64 ((q5.died)+x4)))))))))))))
theorem zm0 (x0:yc) (x1:Int) (x2:Int) (x3:Int) (x4:Int) (hx:x0.people.length≤1048576) (hi:0≤x1∧x1<x0.people.length):FnT Tryz.prog 99 [.agg (zcf false x0),.int .i64 x1,.int .i64 x2,.int .i64 x3,.int .i64 x4] (C99 (zeg x0 x1 x2 x3 x4)):=by
 have aux:∀ R,zeg x0 x1 x2 x3 x4=R→slim (C99 R) (A99 x0 x1 x2 x3 x4) []:=by
  intro R hR
  refine rg trivial ?_
  refine rg trivial ?_
  revert hR;refine cd (fun hc1 hR=>?_) fun hc1 hR=>?_
  ·
    refine rg trivial ?_
    exact congrArg C99 hR
  ·
    refine rg ⟨by ((try clear hR);intros;(try simp only [decide_eq_true_eq,decide_eq_false_iff_not,Bool.or_eq_true,Bool.and_eq_true,zbd,zbb,zbc,Bool.not_eq_true',inR] at *);(repeat' apply And.intro)<;>(intros;omega)),trivial⟩ ?_
    revert hR;refine cd (fun hc2 hR=>?_) fun hc2 hR=>?_
    ·
      refine rg trivial ?_
      exact congrArg C99 hR
    ·
      refine rg ⟨by ((try clear hR);intros;(try simp only [decide_eq_true_eq,decide_eq_false_iff_not,Bool.or_eq_true,Bool.and_eq_true,zbd,zbb,zbc,Bool.not_eq_true',inR] at *);(repeat' apply And.intro)<;>(intros;omega)),by trivial,by ((try clear hR);intros;(try simp only [decide_eq_true_eq,decide_eq_false_iff_not,Bool.or_eq_true,Bool.and_eq_true,zbd,zbb,zbc,Bool.not_eq_true',inR] at *);(repeat' apply And.intro)<;>(intros;omega)),trivial⟩ ?_
      exact congrArg C99 hR
 exact Fn.go 60 Tryz.func99 (by kernel_rfl) (by kernel_rfl) (by simp [C99,Frs,FrsL]) (A99 x0 x1 x2 x3 x4) (by kernel_rfl) (aux _ rfl)
def k99 (x0:yc) (x1:Int) (x2:Int) (x3:Int) (x4:Int):Cl:=(hres (C99 (zeg x0 x1 x2 x3 x4)),k2 (zm0 x0 x1 x2 x3 x4))
def C74 (R:Bool):LV×List (Nat×BC):=(.bool R,[])
def zd5 (x0:yc) (x1:Int):Bool:=bif ((((!(zcp ((x0.people.getD x1.toNat default).name)))||(!(l1In ((x0.people.getD x1.toNat default).sex) 1 2)))||(!(l1In ((x0.people.getD x1.toNat default).born) 0 9999)))||((!decide (((x0.people.getD x1.toNat default).died)=(-1)))&&(!(l1In ((x0.people.getD x1.toNat default).died) ((x0.people.getD x1.toNat default).born) 9999)))) then false else (loopN (fun i1 (v1:Unit) next=>bif (((x0.people.getD i1 default).name)==((x0.people.getD x1.toNat default).name)) then false else (next ())) (fun (v1:Unit)=>(zeg x0 x1 ((x0.people.getD x1.toNat default).father) 1 1)&&(zeg x0 x1 ((x0.people.getD x1.toNat default).mother) 2 0)) x1.toNat 0 ())
def D74b1 (i1:Nat) (v1:Unit):Dl:=⟨[(6,.int .i64 ((i1:Nat):Int))],[]⟩
def A74b1 (x0:yc) (x1:Int) (i1:Nat) (v1:Unit):Ann:=let q2:=((i1:Nat):Int);let q1:=x0.people.getD x1.toNat default;let q3:=zeg x0 x1 (q1.father) 1 1;r0 1 [1,2,4,5,6,43] [2,5] (cn (decide (q2<x1)) (r1 1 [1,2,4,5,6,54] [2,5] [pf (0≤(q2:Int)∧(q2:Int)<((x0.people.length:Nat):Int))] [0] (cn (((x0.people.getD i1 default).name)==(q1.name)) (r0 1 [1,2,4,5,6] [2,5] (rt [] (C74 false))) (r1 1 [1,2,4,5,6] [2,5] [pf (inR .i64 (q2+1))] [0] (.next 0 [] (D74b1 (i1+1) ()))))) (.reg 1 [] [(4,k99 x0 x1 (q1.father) 1 1),(10,cg q3 (k99 x0 x1 (q1.mother) 2 0))] [4] [] [zeg x0 x1 (q1.father) 1 1] [] [] [0,1,1,1,1,4,1] (rt [] (C74 (q3&&(zeg x0 x1 (q1.mother) 2 0))))))
def A74 (x0:yc) (x1:Int):Ann:=let q1:=x0.people.getD x1.toNat default;let q3:=zcp (q1.name);let q4:=!decide ((q1.died)=(-1));let q5:=(!q3)||(!(l1In (q1.sex) 1 2));let q2:=q5||(!(l1In (q1.born) 0 9999));r1 2 [1,2,4,5] [2,5] [pf (0≤(x1:Int)∧(x1:Int)<((x0.people.length:Nat):Int))] [0] (.reg 1 [] [(2,k97 (q1.name)),(7,cg (!(!q3)) (k98 (q1.sex) 1 2)),(13,cg (!q5) (k98 (q1.born) 0 9999)),(25,cg ((!q2)&&q4) (k98 (q1.died) (q1.born) 9999))] [1,2,4,5,40] [2,5] [!(!q3),!q3,!q5,(!q3)||(!(l1In (q1.sex) 1 2)),!q2,(!q2)&&q4,q5||(!(l1In (q1.born) 0 9999))] [gt (!q2) (gt q4 (pf (((!q2)&&q4)=true)))] [] [4,1,1,8,1,6,9,9,12,9,14,17,17,17,21,21,21,21,16,21,17,0,26] (cn (q2||(q4&&(!(l1In (q1.died) (q1.born) 9999)))) (r0 1 [1,2,4,5] [2,5] (rt [] (C74 false))) (r0 1 [1,2,4,5,6] [2,5] (lp (D74b1) [] [] [] (D74b1 0 ()) (A74b1 x0 x1)))))
theorem zmz (x0:yc) (x1:Int) (hx:x0.people.length≤1048576) (hn:∀ p∈x0.people,p.name.length≤1048576) (hi:0≤x1∧x1<x0.people.length):FnT Tryz.prog 74 [.agg (zcf false x0),.int .i64 x1] (C74 (zd5 x0 x1)):=by
 have aux:∀ R,zd5 x0 x1=R→slim (C74 R) (A74 x0 x1) []:=by
  intro R hR
  refine rg ⟨by trivial,trivial⟩ ?_
  refine rg ⟨by ((try clear hR);intros;(try simp only [decide_eq_true_eq,decide_eq_false_iff_not,Bool.or_eq_true,Bool.and_eq_true,zbd,zbb,zbc,Bool.not_eq_true',inR] at *);(repeat' apply And.intro)<;>(first | (intros;omega) | (simp_all [inR];done))),by ((try clear hR);intros;(try simp only [decide_eq_true_eq,decide_eq_false_iff_not,Bool.or_eq_true,Bool.and_eq_true,zbd,zbb,zbc,Bool.not_eq_true',inR] at *);(repeat' apply And.intro)<;>(simp_all [inR];done)),fun hg0=>trivial,fun hg0=>trivial,fun hg0=>trivial,trivial⟩ ?_
  revert hR;refine cd (fun hc1 hR=>?_) fun hc1 hR=>?_
  ·
    refine rg trivial ?_
    exact congrArg C74 hR
  ·
    refine rg trivial ?_
    revert hR;refine lN (fun i v=>True) za6 rfl fun i1 v1 F1 hn1 hI1 hR hK1=>?_
    refine rg trivial ?_
    refine ⟨fun hc2=>?_,fun hc2=>?_⟩
    · have hii1:i1<x1.toNat:=by have:=of_decide_eq_true hc2;omega
      replace hR:=zbq hR hii1
      refine rg ⟨by (intros;omega),trivial⟩ ?_
      revert hR;refine cd (fun hc3 hR=>?_) fun hc3 hR=>?_
      ·
        refine rg trivial ?_
        exact congrArg C74 hR
      ·
        refine rg ⟨by ( intros;simp only [inR];omega),trivial⟩ ?_
        exact hK1 () hii1 za6 hR
    · obtain rfl:i1=x1.toNat:=by have:=of_decide_eq_false hc2;omega
      replace hR:=zbu hR (Nat.lt_irrefl _)
      refine rg ⟨⟨by trivial,by trivial⟩,fun hg0=>⟨by trivial,by trivial⟩,trivial⟩ ?_
      exact congrArg C74 hR
 exact Fn.go 67 Tryz.func74 (by kernel_rfl) (by kernel_rfl) (by simp [C74,Frs,FrsL]) (A74 x0 x1) (by kernel_rfl) (aux _ rfl)
def k74 (x0:yc) (x1:Int):Cl:=(hres (C74 (zd5 x0 x1)),k3 (zmz x0 x1))
def C31 (R:(List Int)):LV×List (Nat×BC):=(.own 0,[(0,.arr 1 R.length (rowOf (cInt .i64) R))])
def zbj (x0:yc):(List Int):=loopN (fun i1 (v1:(List Int)) next=>bif (decide (0≤((x0.people.getD i1 default).father))) then (bif (decide (0≤((x0.people.getD i1 default).mother))) then (next (v1++[Max.max ((v1.getD (((x0.people.getD i1 default).father).toNat) default)+1) ((v1.getD (((x0.people.getD i1 default).mother).toNat) default)+1)])) else (next (v1++[(v1.getD (((x0.people.getD i1 default).father).toNat) default)+1]))) else (bif (decide (0≤((x0.people.getD i1 default).mother))) then (next (v1++[Max.max 0 ((v1.getD (((x0.people.getD i1 default).mother).toNat) default)+1)])) else (next (v1++[0])))) (fun (v1:(List Int))=>v1) x0.people.length 0 ([]:List Int)
def D31b1 (i1:Nat) (v1:(List Int)):Dl:=⟨[(11,.int .i64 ((i1:Nat):Int)),(3,.own 20003)],[(20003,.arr 1 v1.length (rowOf (cInt .i64) v1))]⟩
def A31b1 (x0:yc) (i1:Nat) (v1:(List Int)):Ann:=let q6:=((i1:Nat):Int);let q1:=x0.people.getD i1 default;let q7:=((x0.people.length:Nat):Int);let q4:=inR .i64 (q6+1);let q8:=decide (0≤(q1.mother));let q3:=v1.getD ((q1.father).toNat) default;let q2:=(v1.getD ((q1.mother).toNat) default)+1;let q9:=q3+1;let q5:=(0≤(q1.mother:Int)∧(q1.mother:Int)<((v1.length:Nat):Int));r0 1 [2,3,9,10,11,12] [20003] (cn (decide (q6<q7)) (r1 2 [2,3,5,6,9,10,11] [5,20003] [pf (0≤(q6:Int)∧(q6:Int)<q7)] [0] (r0 1 [2,3,5,6,9,10,11,17] [5,20003] (cn (decide (0≤(q1.father))) (r1 1 [2,3,5,6,9,10,11] [5,20003] [pf (0≤(q1.father:Int)∧(q1.father:Int)<((v1.length:Nat):Int)),pf (inR .i64 q9)] [0,4] (r0 1 [2,3,5,6,9,10,11,26] [5,20003] (cn q8 (r1 1 [2,3,6,9,10,11] [20003] [pf q5,pf (inR .i64 q2)] [0,4] (.reg 1 [] [(2,bsC 37 (cInt .i64) ([Max.max q9 q2]:List Int)),(3,ap1 38 (cInt .i64) 8 v1 (Max.max q9 q2))] [2,3,9,10,11] [38] [] [] [] [0,4] (r1 1 [2,3,9,10,11] [38] [pf q4] [0] (.next 0 [(20003,some 38)] (D31b1 (i1+1) (v1++[Max.max q9 q2])))))) (.reg 1 [] [(2,bsC 37 (cInt .i64) ([q3+1]:List Int)),(3,ap1 38 (cInt .i64) 8 v1 q9)] [2,3,9,10,11] [38] [] [] [] [0,4] (r1 1 [2,3,9,10,11] [38] [pf q4] [0] (.next 0 [(20003,some 38)] (D31b1 (i1+1) (v1++[q3+1])))))))) (r0 1 [2,3,5,6,9,10,11,26] [5,20003] (cn q8 (r1 1 [2,3,6,9,10,11] [20003] [pf q5,pf (inR .i64 q2)] [0,4] (.reg 1 [] [(2,bsC 37 (cInt .i64) ([Max.max 0 q2]:List Int)),(3,ap1 38 (cInt .i64) 8 v1 (Max.max 0 q2))] [2,3,9,10,11] [38] [] [] [] [0,4] (r1 1 [2,3,9,10,11] [38] [pf q4] [0] (.next 0 [(20003,some 38)] (D31b1 (i1+1) (v1++[Max.max 0 q2])))))) (.reg 1 [] [(2,bsC 37 (cInt .i64) ([0]:List Int)),(3,ap1 38 (cInt .i64) 8 v1 0)] [2,3,9,10,11] [38] [] [] [] [0,4] (r1 1 [2,3,9,10,11] [38] [pf q4] [0] (.next 0 [(20003,some 38)] (D31b1 (i1+1) (v1++[0])))))))))) (r0 1 [2] [20003] (rt [(0,some 20003)] (C31 v1))))
def A31 (x0:yc):Ann:=.reg 2 [] [(1000,bsC 7 (cInt .i64) ([]:List Int))] [1,2,3] [1,7] [] [] [] [0] (r0 1 [2,3,9,10,11] [7] (lp (D31b1) [] [7] [(20003,some 7)] (D31b1 0 ([]:List Int)) (A31b1 x0)))
theorem zex (x:yc):(zbj x).length=x.people.length:=by
 unfold zbj
 refine zbx (fun i (v:List Int)=>v.length=i) (fun (r:List Int)=>r.length=x.people.length) rfl (fun i v next _ hv hn=>?_) (fun v hv=>hv)
 cases decide (0≤(x.people.getD i default).father)<;>cases decide (0≤(x.people.getD i default).mother)<;>exact hn _ (by simp [hv])
theorem zm2 (x0:yc) (hx:x0.people.length≤1048576) (hp:∀ (k:Nat),k<x0.people.length→(x0.people.getD k default).father<k∧(x0.people.getD k default).mother<k):FnT Tryz.prog 31 [.agg (zcf false x0)] (C31 (zbj x0)):=by
 have aux:∀ R,zbj x0=R→slim (C31 R) (A31 x0) []:=by
  intro R hR
  refine rg ⟨trivial,trivial⟩ ?_
  refine rg trivial ?_
  revert hR;refine lN (fun i v=>v.length=i∧∀ k:Nat,k<i→0≤v.getD k default∧v.getD k default≤i) za6 rfl fun i1 v1 F1 hn1 hI1 hR hK1=>?_
  refine rg trivial ?_
  refine ⟨fun hc1=>?_,fun hc1=>?_⟩
  ·have hii1:i1<x0.people.length:=by have:=of_decide_eq_true hc1;omega
   replace hR:=zbq hR hii1
   refine rg ⟨by (intros;omega),trivial⟩ ?_
   refine rg trivial ?_
   revert hR;refine cd (fun hc2 hR=>?_) fun hc2 hR=>?_
   ·
     refine rg ⟨by ((try clear hR hK1);intros;(try simp only [decide_eq_true_eq,decide_eq_false_iff_not,Bool.or_eq_true,Bool.and_eq_true,zbd,zbb,zbc,Bool.not_eq_true',inR] at *);(repeat' apply And.intro)<;>(first | (intros;omega) | (simp_all [inR];done))),by ((try clear hR hK1);intros;(try simp only [decide_eq_true_eq,decide_eq_false_iff_not,Bool.or_eq_true,Bool.and_eq_true,zbd,zbb,zbc,Bool.not_eq_true',inR] at *);(repeat' apply And.intro)<;>grind [inR,zco,zcy,zgl,List.length_set,zi6]),trivial⟩ ?_
     refine rg trivial ?_
     revert hR;refine cd (fun hc3 hR=>?_) fun hc3 hR=>?_
     ·
       refine rg ⟨by ((try clear hR hK1);intros;(try simp only [decide_eq_true_eq,decide_eq_false_iff_not,Bool.or_eq_true,Bool.and_eq_true,zbd,zbb,zbc,Bool.not_eq_true',inR] at *);(repeat' apply And.intro)<;>(first | (intros;omega) | (simp_all [inR];done))),by ((try clear hR hK1);intros;(try simp only [decide_eq_true_eq,decide_eq_false_iff_not,Bool.or_eq_true,Bool.and_eq_true,zbd,zbb,zbc,Bool.not_eq_true',inR] at *);(repeat' apply And.intro)<;>grind [inR,zco,zcy,zgl,List.length_set,zi6]),trivial⟩ ?_
       refine rg ⟨trivial,om,trivial⟩ ?_
       refine rg ⟨by ( intros;simp only [inR];omega),trivial⟩ ?_
       exact hK1 (v1++[Max.max ((v1.getD (((x0.people.getD i1 default).father).toNat) default)+1) ((v1.getD (((x0.people.getD i1 default).mother).toNat) default)+1)]) hii1 zaa hR
     ·
       refine rg ⟨trivial,om,trivial⟩ ?_
       refine rg ⟨by ( intros;simp only [inR];omega),trivial⟩ ?_
       exact hK1 (v1++[(v1.getD (((x0.people.getD i1 default).father).toNat) default)+1]) hii1 zaa hR
   ·
     refine rg trivial ?_
     revert hR;refine cd (fun hc4 hR=>?_) fun hc4 hR=>?_
     ·
       refine rg ⟨by ((try clear hR hK1);intros;(try simp only [decide_eq_true_eq,decide_eq_false_iff_not,Bool.or_eq_true,Bool.and_eq_true,zbd,zbb,zbc,Bool.not_eq_true',inR] at *);(repeat' apply And.intro)<;>(first | (intros;omega) | (simp_all [inR];done))),by ((try clear hR hK1);intros;(try simp only [decide_eq_true_eq,decide_eq_false_iff_not,Bool.or_eq_true,Bool.and_eq_true,zbd,zbb,zbc,Bool.not_eq_true',inR] at *);(repeat' apply And.intro)<;>grind [inR,zco,zcy,zgl,List.length_set,zi6]),trivial⟩ ?_
       refine rg ⟨trivial,om,trivial⟩ ?_
       refine rg ⟨by ( intros;simp only [inR];omega),trivial⟩ ?_
       exact hK1 (v1++[Max.max 0 ((v1.getD (((x0.people.getD i1 default).mother).toNat) default)+1)]) hii1 zaa hR
     ·
       refine rg ⟨trivial,om,trivial⟩ ?_
       refine rg ⟨by ( intros;simp only [inR];omega),trivial⟩ ?_
       exact hK1 (v1++[0]) hii1 zaa hR
  ·obtain rfl:i1=x0.people.length:=by have:=of_decide_eq_false hc1;omega
   replace hR:=zbu hR (Nat.lt_irrefl _)
   refine rg trivial ?_
   exact congrArg C31 hR
 exact Fn.go 41 Tryz.func31 (by kernel_rfl) (by kernel_rfl) (by simp [C31,Frs,FrsL,FrsB,rowOf,cInt,cBool,cStr,cSl,zdm,zbg,zbi,zcf]) (A31 x0) (by kernel_rfl) (aux _ rfl)
def k31 (x0:yc):Cl:=(hres (C31 (zbj x0)),k2 (zm2 x0))
def C75 (R:Bool):LV×List (Nat×BC):=(.bool R,[])
def zfs (x0:yc) (x1:Int):Bool:=bif ((((!(l1In ((x0.unions.getD x1.toNat default).man) 0 (((x0.people.length:Nat):Int) - 1)))||(!(l1In ((x0.unions.getD x1.toNat default).woman) 0 (((x0.people.length:Nat):Int) - 1))))||(!decide (((x0.people.getD (((x0.unions.getD x1.toNat default).man).toNat) default).sex)=1)))||(!decide (((x0.people.getD (((x0.unions.getD x1.toNat default).woman).toNat) default).sex)=2))) then false else (bif ((decide (9999<((x0.unions.getD x1.toNat default).from0)))||((!decide (((x0.unions.getD x1.toNat default).to)=(-1)))&&(!(l1In ((x0.unions.getD x1.toNat default).to) ((x0.unions.getD x1.toNat default).from0) 9999)))) then false else (loopN (fun i1 (v1:Unit) next=>bif ((decide (((x0.unions.getD x1.toNat default).from0)<((x0.people.getD (([(x0.unions.getD x1.toNat default).man,(x0.unions.getD x1.toNat default).woman].getD i1 default).toNat) default).born)))||((!decide (((x0.people.getD (([(x0.unions.getD x1.toNat default).man,(x0.unions.getD x1.toNat default).woman].getD i1 default).toNat) default).died)=(-1)))&&((decide (((x0.people.getD (([(x0.unions.getD x1.toNat default).man,(x0.unions.getD x1.toNat default).woman].getD i1 default).toNat) default).died)<((x0.unions.getD x1.toNat default).from0)))||(decide (((x0.people.getD (([(x0.unions.getD x1.toNat default).man,(x0.unions.getD x1.toNat default).woman].getD i1 default).toNat) default).died)<((x0.unions.getD x1.toNat default).to)))))) then false else (next ())) (fun (v1:Unit)=>loopN (fun i2 (v2:Unit) next=>bif ((decide (((x0.unions.getD i2 default).man)=((x0.unions.getD x1.toNat default).man)))&&(decide (((x0.unions.getD i2 default).woman)=((x0.unions.getD x1.toNat default).woman)))) then false else (next ())) (fun (v2:Unit)=>true) x1.toNat 0 ()) 2 0 ()))
def D75b1 (i1:Nat) (v1:Unit):Dl:=⟨[(75,.int .i64 ((i1:Nat):Int))],[]⟩
def D75b2 (i2:Nat) (v2:Unit):Dl:=⟨[(10,.int .i64 ((i2:Nat):Int))],[]⟩
def A75b2 (x0:yc) (x1:Int) (i2:Nat) (v2:Unit):Ann:=let q1:=((x0.unions.getD i2 default).man)=((x0.unions.getD x1.toNat default).man);let q2:=(0≤(((i2:Nat):Int):Int)∧(((i2:Nat):Int):Int)<((x0.unions.length:Nat):Int));r0 1 [1,2,4,5,10,111] [2,5] (cn (decide (((i2:Nat):Int)<x1)) (.reg 1 [] [] [1,2,4,5,10,133] [2,5] [decide q1] [pf q2,gt (decide q1) (pf q2)] [] [0,1,1,1,4,1,1,1,1,1,1] (cn ((decide q1)&&(decide (((x0.unions.getD i2 default).woman)=((x0.unions.getD x1.toNat default).woman)))) (r0 1 [1,2,4,5,10] [2,5] (rt [] (C75 false))) (r1 1 [1,2,4,5,10] [2,5] [pf (inR .i64 (((i2:Nat):Int)+1))] [0] (.next 0 [] (D75b2 (i2+1) ()))))) (r0 1 [4] [] (rt [] (C75 true))))
def A75b1 (x0:yc) (x1:Int) (i1:Nat) (v1:Unit):Ann:=let q6:=((i1:Nat):Int);let q2:=x0.unions.getD x1.toNat default;let q7:=(([q2.man,q2.woman].getD i1 default):Int);let q1:=(x0.people.getD (([q2.man,q2.woman].getD i1 default).toNat) default);let q4:=!decide ((q1.died)=(-1));let q3:=decide ((q2.from0)<(q1.born));let q5:=decide ((q1.died)<(q2.from0));let q8:=(!q3)&&q4;r0 1 [1,2,4,5,73,74,75,76] [2,5,73] (cn (decide (q6<2)) (.reg 3 [] [] [1,2,4,5,73,74,75,107] [2,5,73] [!q3,(!q3)&&q4,q8&&(!q5),decide ((q2.from0)<(q1.born))] [pf (0≤(q6:Int)∧(q6:Int)<((2:Nat):Int)),pf (0≤q7∧q7<((x0.people.length:Nat):Int)),gt q8 (gf q5 (pf ((q8&&(!q5))=true))),gt (!q3) (gt q4 (pf (q8=true)))] [] [0,4,1,1,1,5,5,5,5,5,9,9,9,9,5,8,1,12,14] (cn (q3||(q4&&(q5||(decide ((q1.died)<(q2.to)))))) (r0 1 [1,2,4,5,73,74,75] [2,5,73] (rt [] (C75 false))) (r1 1 [1,2,4,5,73,74,75] [2,5,73] [pf (inR .i64 (q6+1))] [0] (.next 0 [] (D75b1 (i1+1) ()))))) (r0 1 [1,2,4,5,10] [2,5] (lp (D75b2) [] [] [] (D75b2 0 ()) (A75b2 x0 x1))))
def A75 (x0:yc) (x1:Int):Ann:=let q8:=((x0.people.length:Nat):Int);let q1:=x0.unions.getD x1.toNat default;let q2:=q8 - 1;let q6:=!decide ((q1.to)=(-1));let q5:=decide (9999<(q1.from0));let q7:=l1In (q1.man) 0 q2;let q4:=!decide (((x0.people.getD ((q1.man).toNat) default).sex)=1);let q3:=(!q7)||(!(l1In (q1.woman) 0 q2));r1 3 [1,2,4,5,6] [2,5] [pf (0≤(x1:Int)∧(x1:Int)<((x0.unions.length:Nat):Int))] [0] (.reg 1 [] [(4,k98 (q1.man) 0 q2),(11,cg (!(!q7)) (k98 (q1.woman) 0 q2))] [1,2,4,5,52] [2,5] [!(!q7),!q7,!q3,(!q7)||(!(l1In (q1.woman) 0 q2)),!(q3||q4),q3||q4] [pf (inR .i64 q2),gt (!(!q7)) (pf (inR .i64 q2)),gt (!q3) (pf (0≤(q1.man:Int)∧(q1.man:Int)<q8)),gt (!(q3||q4)) (pf (0≤(q1.woman:Int)∧(q1.woman:Int)<q8))] [] [0,16,1,1,4,1,1,20,1,6,9,9,9,9,8,9,9,9,14,17,17,17,17,12,17,17,17,22] (cn ((q3||q4)||(!decide (((x0.people.getD ((q1.woman).toNat) default).sex)=2))) (r0 1 [1,2,4,5] [2,5] (rt [] (C75 false))) (.reg 1 [] [(12,cg ((!q5)&&q6) (k98 (q1.to) (q1.from0) 9999))] [1,2,4,5,68] [2,5] [!q5,(!q5)&&q6,decide (9999<(q1.from0))] [gt (!q5) (gt q6 (pf (((!q5)&&q6)=true)))] [] [1,1,1,5,5,5,5,4,5,1,0,10] (cn (q5||(q6&&(!(l1In (q1.to) (q1.from0) 9999)))) (r0 1 [1,2,4,5] [2,5] (rt [] (C75 false))) (.reg 1 [] [(4,bsC 73 (cInt .i64) ([q1.man,q1.woman]:List Int))] [1,2,4,5,73,74,75] [2,5,73] [] [] [] [0] (lp (D75b1) [] [] [] (D75b1 0 ()) (A75b1 x0 x1)))))))
theorem zon (x0:yc) (x1:Int) (hx:x0.people.length≤1048576) (hu:x0.unions.length≤1048576) (hi:0≤x1∧x1<x0.unions.length):FnT Tryz.prog 75 [.agg (zcf false x0),.int .i64 x1] (C75 (zfs x0 x1)):=by
 have aux:∀ R,zfs x0 x1=R→slim (C75 R) (A75 x0 x1) []:=by
  intro R hR
  refine rg ⟨by trivial,trivial⟩ ?_
  refine rg ⟨by ( intros;simp only [inR];omega),by ( intros;simp only [inR];omega),by ((try clear hR);intros;(try simp only [decide_eq_true_eq,decide_eq_false_iff_not,Bool.or_eq_true,Bool.and_eq_true,zbd,zbb,zbc,Bool.not_eq_true',inR,l1In] at *);(repeat' apply And.intro)<;>(intros;omega)),by ((try clear hR);intros;(try simp only [decide_eq_true_eq,decide_eq_false_iff_not,Bool.or_eq_true,Bool.and_eq_true,zbd,zbb,zbc,Bool.not_eq_true',inR,l1In] at *);(repeat' apply And.intro)<;>(intros;omega)),trivial,fun hg0=>trivial,trivial⟩ ?_
  revert hR;refine cd (fun hc1 hR=>?_) fun hc1 hR=>?_
  ·
    refine rg trivial ?_
    exact congrArg C75 hR
  ·
    refine rg ⟨by ((try clear hR);intros;(try simp only [decide_eq_true_eq,decide_eq_false_iff_not,Bool.or_eq_true,Bool.and_eq_true,zbd,zbb,zbc,Bool.not_eq_true',inR,l1In] at *);(repeat' apply And.intro)<;>(intros;omega)),fun hg0=>trivial,trivial⟩ ?_
    revert hR;refine cd (fun hc2 hR=>?_) fun hc2 hR=>?_
    ·
      refine rg trivial ?_
      exact congrArg C75 hR
    ·
      refine rg ⟨trivial,trivial⟩ ?_
      revert hR;refine lN (fun i v=>True) za6 rfl fun i1 v1 F1 hn1 hI1 hR hK1=>?_
      refine rg trivial ?_
      refine ⟨fun hc3=>?_,fun hc3=>?_⟩
      · have hii1:i1<2:=by have:=of_decide_eq_true hc3;omega
        replace hR:=zbq hR hii1
        refine rg ⟨by (intros;omega),by ((try clear hR hK1);intros;(try simp only [decide_eq_true_eq,decide_eq_false_iff_not,Bool.or_eq_true,Bool.and_eq_true,zbd,zbb,zbc,Bool.not_eq_true',inR,l1In] at *);(repeat' apply And.intro)<;>grind [inR,zco,zcy,zgl,List.length_set,zi6,l1In]),by ((try clear hR hK1);intros;(try simp only [decide_eq_true_eq,decide_eq_false_iff_not,Bool.or_eq_true,Bool.and_eq_true,zbd,zbb,zbc,Bool.not_eq_true',inR,l1In] at *);(repeat' apply And.intro)<;>(intros;omega)),by ((try clear hR hK1);intros;(try simp only [decide_eq_true_eq,decide_eq_false_iff_not,Bool.or_eq_true,Bool.and_eq_true,zbd,zbb,zbc,Bool.not_eq_true',inR,l1In] at *);(repeat' apply And.intro)<;>(intros;omega)),trivial⟩ ?_
        revert hR;refine cd (fun hc4 hR=>?_) fun hc4 hR=>?_
        ·
          refine rg trivial ?_
          exact congrArg C75 hR
        ·
          refine rg ⟨by ( intros;simp only [inR];omega),trivial⟩ ?_
          exact hK1 () hii1 za6 hR
      · obtain rfl:i1=2:=by have:=of_decide_eq_false hc3;omega
        replace hR:=zbu hR (Nat.lt_irrefl _)
        refine rg trivial ?_
        revert hR;refine lN (fun i v=>True) za6 rfl fun i2 v2 F2 hn2 hI2 hR hK2=>?_
        refine rg trivial ?_
        refine ⟨fun hc5=>?_,fun hc5=>?_⟩
        · have hii2:i2<x1.toNat:=by have:=of_decide_eq_true hc5;omega
          replace hR:=zbq hR hii2
          refine rg ⟨by (intros;omega),by (intros;omega),trivial⟩ ?_
          revert hR;refine cd (fun hc6 hR=>?_) fun hc6 hR=>?_
          ·
            refine rg trivial ?_
            exact congrArg C75 hR
          ·
            refine rg ⟨by ( intros;simp only [inR];omega),trivial⟩ ?_
            exact hK2 () hii2 za6 hR
        · obtain rfl:i2=x1.toNat:=by have:=of_decide_eq_false hc5;omega
          replace hR:=zbu hR (Nat.lt_irrefl _)
          refine rg trivial ?_
          exact congrArg C75 hR
 exact Fn.go 134 Tryz.func75 (by kernel_rfl) (by kernel_rfl) (by simp [C75,Frs,FrsL]) (A75 x0 x1) (by kernel_rfl) (aux _ rfl)
def k75 (x0:yc) (x1:Int):Cl:=(hres (C75 (zfs x0 x1)),k3 (zon x0 x1))
end Go.Proofs.YtlinnkjieghmhaaGreatDoor
