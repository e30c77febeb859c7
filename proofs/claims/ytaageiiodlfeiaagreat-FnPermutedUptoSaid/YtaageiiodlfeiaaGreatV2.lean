import Derived.Test.YtaageiiodlfeiaaGreatProg
import Derived.Test.YtaageiiodlfeiaaGreatLiteW
import Derived.KernelRfl
set_option maxHeartbeats 4000000
set_option linter.unusedSimpArgs false
set_option linter.unusedVariables false
namespace Go.Proofs.YtaageiiodlfeiaaGreat
open Go Go.Lite Go.Proofs
theorem za2 {p:Prop} (h:p:=by (intros;omega)):p:=h
theorem za0 {p:Prop} (h:p:=by rw [h.pl];omega):p:=h
theorem zaz {p:Prop} (h:p:=by simp only;omega):p:=h
theorem zay {p:Prop} (h:p:=by dsimp only;omega):p:=h
theorem zax {p:Prop} (h:p:=by exact True.intro):p:=h
theorem zau {p:Prop} (h:p:=by rw [← zfu];omega):p:=h
theorem zao {p:Prop} (h:p:=by (simp only [List.length_set];omega)):p:=h
theorem zam {p:Prop} (h:p:=by (simp only [List.length_append,List.length_singleton];omega)):p:=h
theorem zal {p:Prop} (h:p:=by (exfalso;have h7:=of_decide_eq_true hc3;have h6:=of_decide_eq_true hc1;omega)):p:=h
theorem zak {p:Prop} (h:p:=by (have h7:=of_decide_eq_true hc7;have h9:=zrz (zey m) hf hS ha om hc8;omega)):p:=h
theorem zai {p:Prop} (h:p:=by trivial):p:=h
theorem zah {p:Prop} (h:p:=by kernel_rfl):p:=h
theorem zag {p:Prop} (h:p:=by simpa using hc1):p:=h
theorem zaf {p:Prop} (h:p:=by ((simp only [Bool.and_eq_true,decide_eq_true_eq] at *;refine ⟨⟨?_,?_⟩,?_⟩<;>((try dsimp only);(try simp only [List.length_append,List.length_cons,List.length_nil]);omega)))):p:=h
theorem zae {p:Prop} (h:p:=by (have h9:=hs _ (zb0 (d:=default) hii1);have h8:=zbk;(try simp only [inR,List.length_append,List.length_cons,List.length_nil,List.length_take,List.length_drop,zbk]);omega)):p:=h
theorem zad {p:Prop} (h:p:=by ((try clear hR hK1);intros;(try simp only [decide_eq_true_eq,decide_eq_false_iff_not,Bool.or_eq_true,Bool.and_eq_true,zbd,za9,zba,Bool.not_eq_true',inR] at *);(repeat' apply And.intro)<;>(intros;omega))):p:=h
theorem zac {p:Prop} (h:p:=by ((try clear hR hK1 hK2);intros;(try simp only [decide_eq_true_eq,decide_eq_false_iff_not,Bool.or_eq_true,Bool.and_eq_true,zbd,za9,zba,Bool.not_eq_true',inR] at *);(repeat' apply And.intro)<;>(simp_all [inR];done))):p:=h
theorem zab {p:Prop} (h:p:=by ((try clear hR hK1);intros;(try simp only [decide_eq_true_eq,decide_eq_false_iff_not,Bool.or_eq_true,Bool.and_eq_true,zbd,za9,zba,Bool.not_eq_true',inR] at *);(repeat' apply And.intro)<;>(first | (simp_all [inR];done) | grind [inR,zcf,zdu,zfd,List.length_set,zhj]))):p:=h
theorem zaa {p:Prop} (h:p:=by ((try clear hR hK1);intros;(try simp only [decide_eq_true_eq,decide_eq_false_iff_not,Bool.or_eq_true,Bool.and_eq_true,zbd,za9,zba,Bool.not_eq_true',inR] at *);(repeat' apply And.intro)<;>(first | (have h9:=zfl hp hi hj hii1;have:=zcb x0 x1 hp hi;have:=zcb x0 x2 hp hj;omega) | (have:=zf5 x0 x1 hp hi ((za5 x0 x1 x2).getD i1 default).toNat;have:=zf5 x0 x2 hp hj ((za5 x0 x1 x2).getD i1 default).toNat;omega) | (intros;omega)))):p:=h

structure Person where
 name:List UInt8
 sex:Int
 father:Int
 mother:Int
 born:Int
 died:Int
 deriving Inhabited
def zbq (fr:Bool) (x:Person):List LV:=cStr x.name++cInt .i64 x.sex++cInt .i64 x.father++cInt .i64 x.mother++cInt .i64 x.born++cInt .i64 x.died

structure Union where
 man:Int
 woman:Int
 from0:Int
 to:Int
 deriving Inhabited
def zb4 (fr:Bool) (x:Union):List LV:=cInt .i64 x.man++cInt .i64 x.woman++cInt .i64 x.from0++cInt .i64 x.to

structure Family where
 people:List Person
 unions:List Union
 deriving Inhabited
def zbx (fr:Bool) (x:Family):List LV:=cSl fr 6 (zbq fr) x.people++cSl fr 4 (zb4 fr) x.unions

def C86 (R:Bool):LV×List (Nat×BC):=(.bool R,[])
def l1In (x0:Int) (x1:Int) (x2:Int):Bool:=(decide (x1≤x0))&&(decide (x0≤x2))
def A86 (x0:Int) (x1:Int) (x2:Int):Ann:=.reg 2 [] [] [6] [] [decide (x1≤x0)] [] [] [1,1,1] (rt [] (C86 ((decide (x1≤x0))&&(decide (x0≤x2)))))
theorem zsk (x0:Int) (x1:Int) (x2:Int):FnT Tryz.prog 86 [.int .i64 x0,.int .i64 x1,.int .i64 x2] (C86 (l1In x0 x1 x2)):=by
 have aux:∀ R,l1In x0 x1 x2=R→slim (C86 R) (A86 x0 x1 x2) []:=by
  intro R hR
  refine rg trivial ?_
  exact congrArg C86 hR
 exact Fn.go 15 Tryz.func86 zah zah (by simp [C86,Frs,FrsL]) (A86 x0 x1 x2) zah (aux _ rfl)
def k86 (x0:Int) (x1:Int) (x2:Int):Cl:=(hres (C86 (l1In x0 x1 x2)),k0 (zsk x0 x1 x2))
def C128 (R:Bool):LV×List (Nat×BC):=(.bool R,[])
def zcc (x0:List UInt8):Bool:=loopN (fun i1 (v1:Unit) next=>bif ((decide (((x0.getD i1 0).toNat:Int)<97))||(decide (122<((x0.getD i1 0).toNat:Int)))) then false else (next ())) (fun (v1:Unit)=>l1In ((x0.length:Nat):Int) 1 12) x0.length 0 ()
def zyr (x0:List UInt8) (i1:Nat) (v1:Unit):Dl:=⟨[(3,.int .i64 ((i1:Nat):Int))],[]⟩
def A128b1 (x0:List UInt8) (i1:Nat) (v1:Unit):Ann:=r0 1 [0,2,3,7] [] (cn (decide (((i1:Nat):Int)<((x0.length:Nat):Int))) (.reg 1 [] [] [0,2,3,19] [] [!(decide (((x0.getD i1 0).toNat:Int)<97)),decide (((x0.getD i1 0).toNat:Int)<97)] [pf (0≤(((i1:Nat):Int):Int)∧(((i1:Nat):Int):Int)<((x0.length:Nat):Int)),gt (!(decide (((x0.getD i1 0).toNat:Int)<97))) (pf (0≤(((i1:Nat):Int):Int)∧(((i1:Nat):Int):Int)<((x0.length:Nat):Int)))] [] [0,1,1,4,1,6] (cn ((decide (((x0.getD i1 0).toNat:Int)<97))||(decide (122<((x0.getD i1 0).toNat:Int)))) (r0 1 [0,2,3] [] (rt [] (C128 false))) (r1 1 [0,2,3] [] [pf (inR .i64 (((i1:Nat):Int)+1))] [0] (.next 0 [] (zyr x0 (i1+1) ()))))) (.reg 1 [] [(2,k86 ((x0.length:Nat):Int) 1 12)] [2] [] [] [] [] [0] (rt [] (C128 (l1In ((x0.length:Nat):Int) 1 12)))))
def A128 (x0:List UInt8):Ann:=r0 1 [0,2] [] (r0 1 [0,2,3] [] (lp (zyr x0) [] [] [] (zyr x0 0 ()) (A128b1 x0)))
theorem zo2 (x0:List UInt8) (hx:x0.length≤1048576):FnT Tryz.prog 128 [.str x0] (C128 (zcc x0)):=by
 have aux:∀ R,zcc x0=R→slim (C128 R) (A128 x0) []:=by
  intro R hR
  refine rg trivial ?_
  refine rg trivial ?_
  revert hR;refine lN (fun i v=>True) zai rfl fun i1 v1 F1 hn1 hI1 hR hK1=>?_
  refine rg trivial ?_
  refine ⟨fun hc1=>?_,fun hc1=>?_⟩
  ·have hii1:i1<x0.length:=by have:=of_decide_eq_true hc1;omega
   replace hR:=zbj hR hii1
   refine rg ⟨by (intros;omega),by (intros;omega),trivial⟩ ?_
   revert hR;refine cd (fun hc2 hR=>?_) fun hc2 hR=>?_
   ·
     refine rg trivial ?_
     exact congrArg C128 hR
   ·
     refine rg ⟨by ( intros;simp only [inR];omega),trivial⟩ ?_
     exact hK1 () hii1 zai hR
  ·obtain rfl:i1=x0.length:=by have:=of_decide_eq_false hc1;omega
   replace hR:=zbp hR (Nat.lt_irrefl _)
   refine rg ⟨trivial,trivial⟩ ?_
   exact congrArg C128 hR
 exact Fn.go 23 Tryz.func128 zah zah (by simp [C128,Frs,FrsL]) (A128 x0) zah (aux _ rfl)
def k128 (x0:List UInt8):Cl:=(hres (C128 (zcc x0)),k1 (zo2 x0))
def C129 (R:Bool):LV×List (Nat×BC):=(.bool R,[])
def zej (x0:Family) (x1:Int) (x2:Int) (x3:Int) (x4:Int):Bool:=bif (decide (x2=(-1))) then true else (bif (((decide (x2<0))||(decide (x1≤x2)))||(!decide (((x0.people.getD x2.toNat default).sex)=x3))) then false else ((decide (((x0.people.getD x2.toNat default).born)<((x0.people.getD x1.toNat default).born)))&&((decide (((x0.people.getD x2.toNat default).died)=(-1)))||(decide (((x0.people.getD x1.toNat default).born)≤(IntKind.wrap .i64 (((x0.people.getD x2.toNat default).died)+x4)))))))
def A129 (x0:Family) (x1:Int) (x2:Int) (x3:Int) (x4:Int):Ann:=r0 1 [1,2,3,4,5,10] [5] (r0 1 [1,2,3,4,5,10,14] [5] (cn (decide (x2=(-1))) (r0 1 [1,2,3,4,5,10] [5] (rt [] (C129 true))) (.reg 1 [] [] [1,2,4,5,10,31] [5] [!(decide (x2<0)),decide (x2<0),!((decide (x2<0))||(decide (x1≤x2))),(decide (x2<0))||(decide (x1≤x2))] [gt (!((decide (x2<0))||(decide (x1≤x2)))) (pf (0≤(x2:Int)∧(x2:Int)<((x0.people.length:Nat):Int)))] [] [1,1,6,9,9,9,0,9,9,9,9,14] (cn (((decide (x2<0))||(decide (x1≤x2)))||(!decide (((x0.people.getD x2.toNat default).sex)=x3))) (r0 1 [1,2,4,5,10] [5] (rt [] (C129 false))) (.reg 3 [(2013,.wrap)] [] [10] [] [decide (((x0.people.getD x2.toNat default).born)<((x0.people.getD x1.toNat default).born)),(decide (((x0.people.getD x2.toNat default).born)<((x0.people.getD x1.toNat default).born)))&&(!(decide (((x0.people.getD x2.toNat default).died)=(-1))))] [pf (0≤(x2:Int)∧(x2:Int)<((x0.people.length:Nat):Int)),pf (0≤(x1:Int)∧(x1:Int)<((x0.people.length:Nat):Int)),gt (decide (((x0.people.getD x2.toNat default).born)<((x0.people.getD x1.toNat default).born))) (gf (decide (((x0.people.getD x2.toNat default).died)=(-1))) (pf (((decide (((x0.people.getD x2.toNat default).born)<((x0.people.getD x1.toNat default).born)))&&(!(decide (((x0.people.getD x2.toNat default).died)=(-1)))))=true)))] [] [0,4,1,1,1,5,5,5,5,5,1,8,1] (rt [] (C129 ((decide (((x0.people.getD x2.toNat default).born)<((x0.people.getD x1.toNat default).born)))&&((decide (((x0.people.getD x2.toNat default).died)=(-1)))||(decide (((x0.people.getD x1.toNat default).born)≤(IntKind.wrap .i64 (((x0.people.getD x2.toNat default).died)+x4)))))))))))))
theorem zl3 (x0:Family) (x1:Int) (x2:Int) (x3:Int) (x4:Int) (hx:x0.people.length≤1048576) (hi:0≤x1∧x1<x0.people.length):FnT Tryz.prog 129 [.agg (zbx false x0),.int .i64 x1,.int .i64 x2,.int .i64 x3,.int .i64 x4] (C129 (zej x0 x1 x2 x3 x4)):=by
 have aux:∀ R,zej x0 x1 x2 x3 x4=R→slim (C129 R) (A129 x0 x1 x2 x3 x4) []:=by
  intro R hR
  refine rg trivial ?_
  refine rg trivial ?_
  revert hR;refine cd (fun hc1 hR=>?_) fun hc1 hR=>?_
  ·
    refine rg trivial ?_
    exact congrArg C129 hR
  ·
    refine rg ⟨by ((try clear hR);intros;(try simp only [decide_eq_true_eq,decide_eq_false_iff_not,Bool.or_eq_true,Bool.and_eq_true,zbd,za9,zba,Bool.not_eq_true',inR] at *);(repeat' apply And.intro)<;>(intros;omega)),trivial⟩ ?_
    revert hR;refine cd (fun hc2 hR=>?_) fun hc2 hR=>?_
    ·
      refine rg trivial ?_
      exact congrArg C129 hR
    ·
      refine rg ⟨by ((try clear hR);intros;(try simp only [decide_eq_true_eq,decide_eq_false_iff_not,Bool.or_eq_true,Bool.and_eq_true,zbd,za9,zba,Bool.not_eq_true',inR] at *);(repeat' apply And.intro)<;>(intros;omega)),by trivial,by ((try clear hR);intros;(try simp only [decide_eq_true_eq,decide_eq_false_iff_not,Bool.or_eq_true,Bool.and_eq_true,zbd,za9,zba,Bool.not_eq_true',inR] at *);(repeat' apply And.intro)<;>(intros;omega)),trivial⟩ ?_
      exact congrArg C129 hR
 exact Fn.go 60 Tryz.func129 zah zah (by simp [C129,Frs,FrsL]) (A129 x0 x1 x2 x3 x4) zah (aux _ rfl)
def k129 (x0:Family) (x1:Int) (x2:Int) (x3:Int) (x4:Int):Cl:=(hres (C129 (zej x0 x1 x2 x3 x4)),k2 (zl3 x0 x1 x2 x3 x4))
def C81 (R:Bool):LV×List (Nat×BC):=(.bool R,[])
def zea (x0:Family) (x1:Int):Bool:=bif ((((!(zcc ((x0.people.getD x1.toNat default).name)))||(!(l1In ((x0.people.getD x1.toNat default).sex) 1 2)))||(!(l1In ((x0.people.getD x1.toNat default).born) 0 9999)))||((!decide (((x0.people.getD x1.toNat default).died)=(-1)))&&(!(l1In ((x0.people.getD x1.toNat default).died) ((x0.people.getD x1.toNat default).born) 9999)))) then false else (loopN (fun i1 (v1:Unit) next=>bif (((x0.people.getD i1 default).name)==((x0.people.getD x1.toNat default).name)) then false else (next ())) (fun (v1:Unit)=>(zej x0 x1 ((x0.people.getD x1.toNat default).father) 1 1)&&(zej x0 x1 ((x0.people.getD x1.toNat default).mother) 2 0)) x1.toNat 0 ())
def D81b1 (x0:Family) (x1:Int) (i1:Nat) (v1:Unit):Dl:=⟨[(6,.int .i64 ((i1:Nat):Int))],[]⟩
def A81b1 (x0:Family) (x1:Int) (i1:Nat) (v1:Unit):Ann:=r0 1 [1,2,4,5,6,43] [2,5] (cn (decide (((i1:Nat):Int)<x1)) (r1 1 [1,2,4,5,6,54] [2,5] [pf (0≤(((i1:Nat):Int):Int)∧(((i1:Nat):Int):Int)<((x0.people.length:Nat):Int))] [0] (cn (((x0.people.getD i1 default).name)==((x0.people.getD x1.toNat default).name)) (r0 1 [1,2,4,5,6] [2,5] (rt [] (C81 false))) (r1 1 [1,2,4,5,6] [2,5] [pf (inR .i64 (((i1:Nat):Int)+1))] [0] (.next 0 [] (D81b1 x0 x1 (i1+1) ()))))) (.reg 1 [] [(4,k129 x0 x1 ((x0.people.getD x1.toNat default).father) 1 1),(10,cg (zej x0 x1 ((x0.people.getD x1.toNat default).father) 1 1) (k129 x0 x1 ((x0.people.getD x1.toNat default).mother) 2 0))] [4] [] [zej x0 x1 ((x0.people.getD x1.toNat default).father) 1 1] [] [] [0,1,1,1,1,4,1] (rt [] (C81 ((zej x0 x1 ((x0.people.getD x1.toNat default).father) 1 1)&&(zej x0 x1 ((x0.people.getD x1.toNat default).mother) 2 0))))))
def A81 (x0:Family) (x1:Int):Ann:=r1 2 [1,2,4,5] [2,5] [pf (0≤(x1:Int)∧(x1:Int)<((x0.people.length:Nat):Int))] [0] (.reg 1 [] [(2,k128 ((x0.people.getD x1.toNat default).name)),(7,cg (!(!(zcc ((x0.people.getD x1.toNat default).name)))) (k86 ((x0.people.getD x1.toNat default).sex) 1 2)),(13,cg (!((!(zcc ((x0.people.getD x1.toNat default).name)))||(!(l1In ((x0.people.getD x1.toNat default).sex) 1 2)))) (k86 ((x0.people.getD x1.toNat default).born) 0 9999)),(25,cg ((!(((!(zcc ((x0.people.getD x1.toNat default).name)))||(!(l1In ((x0.people.getD x1.toNat default).sex) 1 2)))||(!(l1In ((x0.people.getD x1.toNat default).born) 0 9999))))&&(!decide (((x0.people.getD x1.toNat default).died)=(-1)))) (k86 ((x0.people.getD x1.toNat default).died) ((x0.people.getD x1.toNat default).born) 9999))] [1,2,4,5,40] [2,5] [!(!(zcc ((x0.people.getD x1.toNat default).name))),!(zcc ((x0.people.getD x1.toNat default).name)),!((!(zcc ((x0.people.getD x1.toNat default).name)))||(!(l1In ((x0.people.getD x1.toNat default).sex) 1 2))),(!(zcc ((x0.people.getD x1.toNat default).name)))||(!(l1In ((x0.people.getD x1.toNat default).sex) 1 2)),!(((!(zcc ((x0.people.getD x1.toNat default).name)))||(!(l1In ((x0.people.getD x1.toNat default).sex) 1 2)))||(!(l1In ((x0.people.getD x1.toNat default).born) 0 9999))),(!(((!(zcc ((x0.people.getD x1.toNat default).name)))||(!(l1In ((x0.people.getD x1.toNat default).sex) 1 2)))||(!(l1In ((x0.people.getD x1.toNat default).born) 0 9999))))&&(!decide (((x0.people.getD x1.toNat default).died)=(-1))),((!(zcc ((x0.people.getD x1.toNat default).name)))||(!(l1In ((x0.people.getD x1.toNat default).sex) 1 2)))||(!(l1In ((x0.people.getD x1.toNat default).born) 0 9999))] [gt (!(((!(zcc ((x0.people.getD x1.toNat default).name)))||(!(l1In ((x0.people.getD x1.toNat default).sex) 1 2)))||(!(l1In ((x0.people.getD x1.toNat default).born) 0 9999)))) (gt (!decide (((x0.people.getD x1.toNat default).died)=(-1))) (pf (((!(((!(zcc ((x0.people.getD x1.toNat default).name)))||(!(l1In ((x0.people.getD x1.toNat default).sex) 1 2)))||(!(l1In ((x0.people.getD x1.toNat default).born) 0 9999))))&&(!decide (((x0.people.getD x1.toNat default).died)=(-1))))=true)))] [] [4,1,1,8,1,6,9,9,12,9,14,17,17,17,21,21,21,21,16,21,17,0,26] (cn ((((!(zcc ((x0.people.getD x1.toNat default).name)))||(!(l1In ((x0.people.getD x1.toNat default).sex) 1 2)))||(!(l1In ((x0.people.getD x1.toNat default).born) 0 9999)))||((!decide (((x0.people.getD x1.toNat default).died)=(-1)))&&(!(l1In ((x0.people.getD x1.toNat default).died) ((x0.people.getD x1.toNat default).born) 9999)))) (r0 1 [1,2,4,5] [2,5] (rt [] (C81 false))) (r0 1 [1,2,4,5,6] [2,5] (lp (D81b1 x0 x1) [] [] [] (D81b1 x0 x1 0 ()) (A81b1 x0 x1)))))
theorem zl2 (x0:Family) (x1:Int) (hx:x0.people.length≤1048576) (hn:∀ p∈x0.people,p.name.length≤1048576) (hi:0≤x1∧x1<x0.people.length):FnT Tryz.prog 81 [.agg (zbx false x0),.int .i64 x1] (C81 (zea x0 x1)):=by
 have aux:∀ R,zea x0 x1=R→slim (C81 R) (A81 x0 x1) []:=by
  intro R hR
  refine rg ⟨by trivial,trivial⟩ ?_
  refine rg ⟨by ((try clear hR);intros;(try simp only [decide_eq_true_eq,decide_eq_false_iff_not,Bool.or_eq_true,Bool.and_eq_true,zbd,za9,zba,Bool.not_eq_true',inR] at *);(repeat' apply And.intro)<;>(first | (intros;omega) | (simp_all [inR];done))),by ((try clear hR);intros;(try simp only [decide_eq_true_eq,decide_eq_false_iff_not,Bool.or_eq_true,Bool.and_eq_true,zbd,za9,zba,Bool.not_eq_true',inR] at *);(repeat' apply And.intro)<;>(simp_all [inR];done)),fun hg0=>trivial,fun hg0=>trivial,fun hg0=>trivial,trivial⟩ ?_
  revert hR;refine cd (fun hc1 hR=>?_) fun hc1 hR=>?_
  ·
    refine rg trivial ?_
    exact congrArg C81 hR
  ·
    refine rg trivial ?_
    revert hR;refine lN (fun i v=>True) zai rfl fun i1 v1 F1 hn1 hI1 hR hK1=>?_
    refine rg trivial ?_
    refine ⟨fun hc2=>?_,fun hc2=>?_⟩
    · have hii1:i1<x1.toNat:=by have:=of_decide_eq_true hc2;omega
      replace hR:=zbj hR hii1
      refine rg ⟨by (intros;omega),trivial⟩ ?_
      revert hR;refine cd (fun hc3 hR=>?_) fun hc3 hR=>?_
      ·
        refine rg trivial ?_
        exact congrArg C81 hR
      ·
        refine rg ⟨by ( intros;simp only [inR];omega),trivial⟩ ?_
        exact hK1 () hii1 zai hR
    · obtain rfl:i1=x1.toNat:=by have:=of_decide_eq_false hc2;omega
      replace hR:=zbp hR (Nat.lt_irrefl _)
      refine rg ⟨⟨by trivial,by trivial⟩,fun hg0=>⟨by trivial,by trivial⟩,trivial⟩ ?_
      exact congrArg C81 hR
 exact Fn.go 67 Tryz.func81 zah zah (by simp [C81,Frs,FrsL]) (A81 x0 x1) zah (aux _ rfl)
def k81 (x0:Family) (x1:Int):Cl:=(hres (C81 (zea x0 x1)),k3 (zl2 x0 x1))
def C82 (R:(List Int)):LV×List (Nat×BC):=(.own 0,[(0,.arr 1 R.length (rowOf (cInt .i64) R))])
def zbi (x0:Family):(List Int):=loopN (fun i1 (v1:(List Int)) next=>bif (decide (0≤((x0.people.getD i1 default).father))) then (bif (decide (0≤((x0.people.getD i1 default).mother))) then (next (v1++[Max.max ((v1.getD (((x0.people.getD i1 default).father).toNat) default)+1) ((v1.getD (((x0.people.getD i1 default).mother).toNat) default)+1)])) else (next (v1++[(v1.getD (((x0.people.getD i1 default).father).toNat) default)+1]))) else (bif (decide (0≤((x0.people.getD i1 default).mother))) then (next (v1++[Max.max 0 ((v1.getD (((x0.people.getD i1 default).mother).toNat) default)+1)])) else (next (v1++[0])))) (fun (v1:(List Int))=>v1) x0.people.length 0 ([]:List Int)
def D82b1 (x0:Family) (i1:Nat) (v1:(List Int)):Dl:=⟨[(11,.int .i64 ((i1:Nat):Int)),(3,.own 20003)],[(20003,.arr 1 v1.length (rowOf (cInt .i64) v1))]⟩
def A82b1 (x0:Family) (i1:Nat) (v1:(List Int)):Ann:=r0 1 [2,3,9,10,11,12] [20003] (cn (decide (((i1:Nat):Int)<((x0.people.length:Nat):Int))) (r1 2 [2,3,5,6,9,10,11] [5,20003] [pf (0≤(((i1:Nat):Int):Int)∧(((i1:Nat):Int):Int)<((x0.people.length:Nat):Int))] [0] (r0 1 [2,3,5,6,9,10,11,17] [5,20003] (cn (decide (0≤((x0.people.getD i1 default).father))) (r1 1 [2,3,5,6,9,10,11] [5,20003] [pf (0≤((x0.people.getD i1 default).father:Int)∧((x0.people.getD i1 default).father:Int)<((v1.length:Nat):Int)),pf (inR .i64 ((v1.getD (((x0.people.getD i1 default).father).toNat) default)+1))] [0,4] (r0 1 [2,3,5,6,9,10,11,26] [5,20003] (cn (decide (0≤((x0.people.getD i1 default).mother))) (r1 1 [2,3,6,9,10,11] [20003] [pf (0≤((x0.people.getD i1 default).mother:Int)∧((x0.people.getD i1 default).mother:Int)<((v1.length:Nat):Int)),pf (inR .i64 ((v1.getD (((x0.people.getD i1 default).mother).toNat) default)+1))] [0,4] (.reg 1 [] [(2,bsC 37 (cInt .i64) ([Max.max ((v1.getD (((x0.people.getD i1 default).father).toNat) default)+1) ((v1.getD (((x0.people.getD i1 default).mother).toNat) default)+1)]:List Int)),(3,ap1 38 (cInt .i64) 8 v1 (Max.max ((v1.getD (((x0.people.getD i1 default).father).toNat) default)+1) ((v1.getD (((x0.people.getD i1 default).mother).toNat) default)+1)))] [2,3,9,10,11] [38] [] [] [] [0,4] (r1 1 [2,3,9,10,11] [38] [pf (inR .i64 (((i1:Nat):Int)+1))] [0] (.next 0 [(20003,some 38)] (D82b1 x0 (i1+1) (v1++[Max.max ((v1.getD (((x0.people.getD i1 default).father).toNat) default)+1) ((v1.getD (((x0.people.getD i1 default).mother).toNat) default)+1)])))))) (.reg 1 [] [(2,bsC 37 (cInt .i64) ([(v1.getD (((x0.people.getD i1 default).father).toNat) default)+1]:List Int)),(3,ap1 38 (cInt .i64) 8 v1 ((v1.getD (((x0.people.getD i1 default).father).toNat) default)+1))] [2,3,9,10,11] [38] [] [] [] [0,4] (r1 1 [2,3,9,10,11] [38] [pf (inR .i64 (((i1:Nat):Int)+1))] [0] (.next 0 [(20003,some 38)] (D82b1 x0 (i1+1) (v1++[(v1.getD (((x0.people.getD i1 default).father).toNat) default)+1])))))))) (r0 1 [2,3,5,6,9,10,11,26] [5,20003] (cn (decide (0≤((x0.people.getD i1 default).mother))) (r1 1 [2,3,6,9,10,11] [20003] [pf (0≤((x0.people.getD i1 default).mother:Int)∧((x0.people.getD i1 default).mother:Int)<((v1.length:Nat):Int)),pf (inR .i64 ((v1.getD (((x0.people.getD i1 default).mother).toNat) default)+1))] [0,4] (.reg 1 [] [(2,bsC 37 (cInt .i64) ([Max.max 0 ((v1.getD (((x0.people.getD i1 default).mother).toNat) default)+1)]:List Int)),(3,ap1 38 (cInt .i64) 8 v1 (Max.max 0 ((v1.getD (((x0.people.getD i1 default).mother).toNat) default)+1)))] [2,3,9,10,11] [38] [] [] [] [0,4] (r1 1 [2,3,9,10,11] [38] [pf (inR .i64 (((i1:Nat):Int)+1))] [0] (.next 0 [(20003,some 38)] (D82b1 x0 (i1+1) (v1++[Max.max 0 ((v1.getD (((x0.people.getD i1 default).mother).toNat) default)+1)])))))) (.reg 1 [] [(2,bsC 37 (cInt .i64) ([0]:List Int)),(3,ap1 38 (cInt .i64) 8 v1 0)] [2,3,9,10,11] [38] [] [] [] [0,4] (r1 1 [2,3,9,10,11] [38] [pf (inR .i64 (((i1:Nat):Int)+1))] [0] (.next 0 [(20003,some 38)] (D82b1 x0 (i1+1) (v1++[0])))))))))) (r0 1 [2] [20003] (rt [(0,some 20003)] (C82 v1))))
def A82 (x0:Family):Ann:=.reg 2 [] [(1000,bsC 7 (cInt .i64) ([]:List Int))] [1,2,3] [1,7] [] [] [] [0] (r0 1 [2,3,9,10,11] [7] (lp (D82b1 x0) [] [7] [(20003,some 7)] (D82b1 x0 0 ([]:List Int)) (A82b1 x0)))
theorem ze5 (x:Family):(zbi x).length=x.people.length:=by
 unfold zbi
 refine zb3 (fun i (v:List Int)=>v.length=i) (fun (r:List Int)=>r.length=x.people.length) rfl (fun i v next _ hv hn=>?_) (fun v hv=>hv)
 cases decide (0≤(x.people.getD i default).father)<;>cases decide (0≤(x.people.getD i default).mother)<;>exact hn _ (by simp [hv])
theorem zl5 (x0:Family) (hx:x0.people.length≤1048576) (hp:∀ (k:Nat),k<x0.people.length→(x0.people.getD k default).father<k∧(x0.people.getD k default).mother<k):FnT Tryz.prog 82 [.agg (zbx false x0)] (C82 (zbi x0)):=by
 have aux:∀ R,zbi x0=R→slim (C82 R) (A82 x0) []:=by
  intro R hR
  refine rg ⟨trivial,trivial⟩ ?_
  refine rg trivial ?_
  revert hR;refine lN (fun i v=>v.length=i∧∀ k:Nat,k<i→0≤v.getD k default∧v.getD k default≤i) zai rfl fun i1 v1 F1 hn1 hI1 hR hK1=>?_
  refine rg trivial ?_
  refine ⟨fun hc1=>?_,fun hc1=>?_⟩
  ·have hii1:i1<x0.people.length:=by have:=of_decide_eq_true hc1;omega
   replace hR:=zbj hR hii1
   refine rg ⟨by (intros;omega),trivial⟩ ?_
   refine rg trivial ?_
   revert hR;refine cd (fun hc2 hR=>?_) fun hc2 hR=>?_
   ·
     refine rg ⟨by ((try clear hR hK1);intros;(try simp only [decide_eq_true_eq,decide_eq_false_iff_not,Bool.or_eq_true,Bool.and_eq_true,zbd,za9,zba,Bool.not_eq_true',inR] at *);(repeat' apply And.intro)<;>(first | (intros;omega) | (simp_all [inR];done))),by ((try clear hR hK1);intros;(try simp only [decide_eq_true_eq,decide_eq_false_iff_not,Bool.or_eq_true,Bool.and_eq_true,zbd,za9,zba,Bool.not_eq_true',inR] at *);(repeat' apply And.intro)<;>grind [inR,zcf,zdu,zfd,List.length_set,zhj]),trivial⟩ ?_
     refine rg trivial ?_
     revert hR;refine cd (fun hc3 hR=>?_) fun hc3 hR=>?_
     ·
       refine rg ⟨by ((try clear hR hK1);intros;(try simp only [decide_eq_true_eq,decide_eq_false_iff_not,Bool.or_eq_true,Bool.and_eq_true,zbd,za9,zba,Bool.not_eq_true',inR] at *);(repeat' apply And.intro)<;>(first | (intros;omega) | (simp_all [inR];done))),by ((try clear hR hK1);intros;(try simp only [decide_eq_true_eq,decide_eq_false_iff_not,Bool.or_eq_true,Bool.and_eq_true,zbd,za9,zba,Bool.not_eq_true',inR] at *);(repeat' apply And.intro)<;>grind [inR,zcf,zdu,zfd,List.length_set,zhj]),trivial⟩ ?_
       refine rg ⟨trivial,om,trivial⟩ ?_
       refine rg ⟨by ( intros;simp only [inR];omega),trivial⟩ ?_
       exact hK1 (v1++[Max.max ((v1.getD (((x0.people.getD i1 default).father).toNat) default)+1) ((v1.getD (((x0.people.getD i1 default).mother).toNat) default)+1)]) hii1 zab hR
     ·
       refine rg ⟨trivial,om,trivial⟩ ?_
       refine rg ⟨by ( intros;simp only [inR];omega),trivial⟩ ?_
       exact hK1 (v1++[(v1.getD (((x0.people.getD i1 default).father).toNat) default)+1]) hii1 zab hR
   ·
     refine rg trivial ?_
     revert hR;refine cd (fun hc4 hR=>?_) fun hc4 hR=>?_
     ·
       refine rg ⟨by ((try clear hR hK1);intros;(try simp only [decide_eq_true_eq,decide_eq_false_iff_not,Bool.or_eq_true,Bool.and_eq_true,zbd,za9,zba,Bool.not_eq_true',inR] at *);(repeat' apply And.intro)<;>(first | (intros;omega) | (simp_all [inR];done))),by ((try clear hR hK1);intros;(try simp only [decide_eq_true_eq,decide_eq_false_iff_not,Bool.or_eq_true,Bool.and_eq_true,zbd,za9,zba,Bool.not_eq_true',inR] at *);(repeat' apply And.intro)<;>grind [inR,zcf,zdu,zfd,List.length_set,zhj]),trivial⟩ ?_
       refine rg ⟨trivial,om,trivial⟩ ?_
       refine rg ⟨by ( intros;simp only [inR];omega),trivial⟩ ?_
       exact hK1 (v1++[Max.max 0 ((v1.getD (((x0.people.getD i1 default).mother).toNat) default)+1)]) hii1 zab hR
     ·
       refine rg ⟨trivial,om,trivial⟩ ?_
       refine rg ⟨by ( intros;simp only [inR];omega),trivial⟩ ?_
       exact hK1 (v1++[0]) hii1 zab hR
  ·obtain rfl:i1=x0.people.length:=by have:=of_decide_eq_false hc1;omega
   replace hR:=zbp hR (Nat.lt_irrefl _)
   refine rg trivial ?_
   exact congrArg C82 hR
 exact Fn.go 41 Tryz.func82 zah zah (by simp [C82,Frs,FrsL,FrsB,rowOf,cInt,cBool,cStr,cSl,zce,zbq,zb4,zbx]) (A82 x0) zah (aux _ rfl)
def k82 (x0:Family):Cl:=(hres (C82 (zbi x0)),k2 (zl5 x0))
def C83 (R:Bool):LV×List (Nat×BC):=(.bool R,[])
def zfz (x0:Family) (x1:Int):Bool:=bif ((((!(l1In ((x0.unions.getD x1.toNat default).man) 0 (((x0.people.length:Nat):Int) - 1)))||(!(l1In ((x0.unions.getD x1.toNat default).woman) 0 (((x0.people.length:Nat):Int) - 1))))||(!decide (((x0.people.getD (((x0.unions.getD x1.toNat default).man).toNat) default).sex)=1)))||(!decide (((x0.people.getD (((x0.unions.getD x1.toNat default).woman).toNat) default).sex)=2))) then false else (bif ((decide (9999<((x0.unions.getD x1.toNat default).from0)))||((!decide (((x0.unions.getD x1.toNat default).to)=(-1)))&&(!(l1In ((x0.unions.getD x1.toNat default).to) ((x0.unions.getD x1.toNat default).from0) 9999)))) then false else (loopN (fun i1 (v1:Unit) next=>bif ((decide (((x0.unions.getD x1.toNat default).from0)<((x0.people.getD (([(x0.unions.getD x1.toNat default).man,(x0.unions.getD x1.toNat default).woman].getD i1 default).toNat) default).born)))||((!decide (((x0.people.getD (([(x0.unions.getD x1.toNat default).man,(x0.unions.getD x1.toNat default).woman].getD i1 default).toNat) default).died)=(-1)))&&((decide (((x0.people.getD (([(x0.unions.getD x1.toNat default).man,(x0.unions.getD x1.toNat default).woman].getD i1 default).toNat) default).died)<((x0.unions.getD x1.toNat default).from0)))||(decide (((x0.people.getD (([(x0.unions.getD x1.toNat default).man,(x0.unions.getD x1.toNat default).woman].getD i1 default).toNat) default).died)<((x0.unions.getD x1.toNat default).to)))))) then false else (next ())) (fun (v1:Unit)=>loopN (fun i2 (v2:Unit) next=>bif ((decide (((x0.unions.getD i2 default).man)=((x0.unions.getD x1.toNat default).man)))&&(decide (((x0.unions.getD i2 default).woman)=((x0.unions.getD x1.toNat default).woman)))) then false else (next ())) (fun (v2:Unit)=>true) x1.toNat 0 ()) 2 0 ()))
def D83b1 (x0:Family) (x1:Int) (i1:Nat) (v1:Unit):Dl:=⟨[(75,.int .i64 ((i1:Nat):Int))],[]⟩
def D83b2 (x0:Family) (x1:Int) (i1:Nat) (v1:Unit) (i2:Nat) (v2:Unit):Dl:=⟨[(10,.int .i64 ((i2:Nat):Int))],[]⟩
def A83b2 (x0:Family) (x1:Int) (i1:Nat) (v1:Unit) (i2:Nat) (v2:Unit):Ann:=r0 1 [1,2,4,5,10,111] [2,5] (cn (decide (((i2:Nat):Int)<x1)) (.reg 1 [] [] [1,2,4,5,10,133] [2,5] [decide (((x0.unions.getD i2 default).man)=((x0.unions.getD x1.toNat default).man))] [pf (0≤(((i2:Nat):Int):Int)∧(((i2:Nat):Int):Int)<((x0.unions.length:Nat):Int)),gt (decide (((x0.unions.getD i2 default).man)=((x0.unions.getD x1.toNat default).man))) (pf (0≤(((i2:Nat):Int):Int)∧(((i2:Nat):Int):Int)<((x0.unions.length:Nat):Int)))] [] [0,1,1,1,4,1,1,1,1,1,1] (cn ((decide (((x0.unions.getD i2 default).man)=((x0.unions.getD x1.toNat default).man)))&&(decide (((x0.unions.getD i2 default).woman)=((x0.unions.getD x1.toNat default).woman)))) (r0 1 [1,2,4,5,10] [2,5] (rt [] (C83 false))) (r1 1 [1,2,4,5,10] [2,5] [pf (inR .i64 (((i2:Nat):Int)+1))] [0] (.next 0 [] (D83b2 x0 x1 i1 v1 (i2+1) ()))))) (r0 1 [4] [] (rt [] (C83 true))))
def A83b1 (x0:Family) (x1:Int) (i1:Nat) (v1:Unit):Ann:=r0 1 [1,2,4,5,73,74,75,76] [2,5,73] (cn (decide (((i1:Nat):Int)<2)) (.reg 3 [] [] [1,2,4,5,73,74,75,107] [2,5,73] [!(decide (((x0.unions.getD x1.toNat default).from0)<((x0.people.getD (([(x0.unions.getD x1.toNat default).man,(x0.unions.getD x1.toNat default).woman].getD i1 default).toNat) default).born))),(!(decide (((x0.unions.getD x1.toNat default).from0)<((x0.people.getD (([(x0.unions.getD x1.toNat default).man,(x0.unions.getD x1.toNat default).woman].getD i1 default).toNat) default).born))))&&(!decide (((x0.people.getD (([(x0.unions.getD x1.toNat default).man,(x0.unions.getD x1.toNat default).woman].getD i1 default).toNat) default).died)=(-1))),((!(decide (((x0.unions.getD x1.toNat default).from0)<((x0.people.getD (([(x0.unions.getD x1.toNat default).man,(x0.unions.getD x1.toNat default).woman].getD i1 default).toNat) default).born))))&&(!decide (((x0.people.getD (([(x0.unions.getD x1.toNat default).man,(x0.unions.getD x1.toNat default).woman].getD i1 default).toNat) default).died)=(-1))))&&(!(decide (((x0.people.getD (([(x0.unions.getD x1.toNat default).man,(x0.unions.getD x1.toNat default).woman].getD i1 default).toNat) default).died)<((x0.unions.getD x1.toNat default).from0)))),decide (((x0.unions.getD x1.toNat default).from0)<((x0.people.getD (([(x0.unions.getD x1.toNat default).man,(x0.unions.getD x1.toNat default).woman].getD i1 default).toNat) default).born))] [pf (0≤(((i1:Nat):Int):Int)∧(((i1:Nat):Int):Int)<((2:Nat):Int)),pf (0≤(([(x0.unions.getD x1.toNat default).man,(x0.unions.getD x1.toNat default).woman].getD i1 default):Int)∧(([(x0.unions.getD x1.toNat default).man,(x0.unions.getD x1.toNat default).woman].getD i1 default):Int)<((x0.people.length:Nat):Int)),gt ((!(decide (((x0.unions.getD x1.toNat default).from0)<((x0.people.getD (([(x0.unions.getD x1.toNat default).man,(x0.unions.getD x1.toNat default).woman].getD i1 default).toNat) default).born))))&&(!decide (((x0.people.getD (([(x0.unions.getD x1.toNat default).man,(x0.unions.getD x1.toNat default).woman].getD i1 default).toNat) default).died)=(-1)))) (gf (decide (((x0.people.getD (([(x0.unions.getD x1.toNat default).man,(x0.unions.getD x1.toNat default).woman].getD i1 default).toNat) default).died)<((x0.unions.getD x1.toNat default).from0))) (pf ((((!(decide (((x0.unions.getD x1.toNat default).from0)<((x0.people.getD (([(x0.unions.getD x1.toNat default).man,(x0.unions.getD x1.toNat default).woman].getD i1 default).toNat) default).born))))&&(!decide (((x0.people.getD (([(x0.unions.getD x1.toNat default).man,(x0.unions.getD x1.toNat default).woman].getD i1 default).toNat) default).died)=(-1))))&&(!(decide (((x0.people.getD (([(x0.unions.getD x1.toNat default).man,(x0.unions.getD x1.toNat default).woman].getD i1 default).toNat) default).died)<((x0.unions.getD x1.toNat default).from0)))))=true))),gt (!(decide (((x0.unions.getD x1.toNat default).from0)<((x0.people.getD (([(x0.unions.getD x1.toNat default).man,(x0.unions.getD x1.toNat default).woman].getD i1 default).toNat) default).born)))) (gt (!decide (((x0.people.getD (([(x0.unions.getD x1.toNat default).man,(x0.unions.getD x1.toNat default).woman].getD i1 default).toNat) default).died)=(-1))) (pf (((!(decide (((x0.unions.getD x1.toNat default).from0)<((x0.people.getD (([(x0.unions.getD x1.toNat default).man,(x0.unions.getD x1.toNat default).woman].getD i1 default).toNat) default).born))))&&(!decide (((x0.people.getD (([(x0.unions.getD x1.toNat default).man,(x0.unions.getD x1.toNat default).woman].getD i1 default).toNat) default).died)=(-1))))=true)))] [] [0,4,1,1,1,5,5,5,5,5,9,9,9,9,5,8,1,12,14] (cn ((decide (((x0.unions.getD x1.toNat default).from0)<((x0.people.getD (([(x0.unions.getD x1.toNat default).man,(x0.unions.getD x1.toNat default).woman].getD i1 default).toNat) default).born)))||((!decide (((x0.people.getD (([(x0.unions.getD x1.toNat default).man,(x0.unions.getD x1.toNat default).woman].getD i1 default).toNat) default).died)=(-1)))&&((decide (((x0.people.getD (([(x0.unions.getD x1.toNat default).man,(x0.unions.getD x1.toNat default).woman].getD i1 default).toNat) default).died)<((x0.unions.getD x1.toNat default).from0)))||(decide (((x0.people.getD (([(x0.unions.getD x1.toNat default).man,(x0.unions.getD x1.toNat default).woman].getD i1 default).toNat) default).died)<((x0.unions.getD x1.toNat default).to)))))) (r0 1 [1,2,4,5,73,74,75] [2,5,73] (rt [] (C83 false))) (r1 1 [1,2,4,5,73,74,75] [2,5,73] [pf (inR .i64 (((i1:Nat):Int)+1))] [0] (.next 0 [] (D83b1 x0 x1 (i1+1) ()))))) (r0 1 [1,2,4,5,10] [2,5] (lp (D83b2 x0 x1 i1 v1) [] [] [] (D83b2 x0 x1 i1 v1 0 ()) (A83b2 x0 x1 i1 v1))))
def A83 (x0:Family) (x1:Int):Ann:=r1 3 [1,2,4,5,6] [2,5] [pf (0≤(x1:Int)∧(x1:Int)<((x0.unions.length:Nat):Int))] [0] (.reg 1 [] [(4,k86 ((x0.unions.getD x1.toNat default).man) 0 (((x0.people.length:Nat):Int) - 1)),(11,cg (!(!(l1In ((x0.unions.getD x1.toNat default).man) 0 (((x0.people.length:Nat):Int) - 1)))) (k86 ((x0.unions.getD x1.toNat default).woman) 0 (((x0.people.length:Nat):Int) - 1)))] [1,2,4,5,52] [2,5] [!(!(l1In ((x0.unions.getD x1.toNat default).man) 0 (((x0.people.length:Nat):Int) - 1))),!(l1In ((x0.unions.getD x1.toNat default).man) 0 (((x0.people.length:Nat):Int) - 1)),!((!(l1In ((x0.unions.getD x1.toNat default).man) 0 (((x0.people.length:Nat):Int) - 1)))||(!(l1In ((x0.unions.getD x1.toNat default).woman) 0 (((x0.people.length:Nat):Int) - 1)))),(!(l1In ((x0.unions.getD x1.toNat default).man) 0 (((x0.people.length:Nat):Int) - 1)))||(!(l1In ((x0.unions.getD x1.toNat default).woman) 0 (((x0.people.length:Nat):Int) - 1))),!(((!(l1In ((x0.unions.getD x1.toNat default).man) 0 (((x0.people.length:Nat):Int) - 1)))||(!(l1In ((x0.unions.getD x1.toNat default).woman) 0 (((x0.people.length:Nat):Int) - 1))))||(!decide (((x0.people.getD (((x0.unions.getD x1.toNat default).man).toNat) default).sex)=1))),((!(l1In ((x0.unions.getD x1.toNat default).man) 0 (((x0.people.length:Nat):Int) - 1)))||(!(l1In ((x0.unions.getD x1.toNat default).woman) 0 (((x0.people.length:Nat):Int) - 1))))||(!decide (((x0.people.getD (((x0.unions.getD x1.toNat default).man).toNat) default).sex)=1))] [pf (inR .i64 (((x0.people.length:Nat):Int) - 1)),gt (!(!(l1In ((x0.unions.getD x1.toNat default).man) 0 (((x0.people.length:Nat):Int) - 1)))) (pf (inR .i64 (((x0.people.length:Nat):Int) - 1))),gt (!((!(l1In ((x0.unions.getD x1.toNat default).man) 0 (((x0.people.length:Nat):Int) - 1)))||(!(l1In ((x0.unions.getD x1.toNat default).woman) 0 (((x0.people.length:Nat):Int) - 1))))) (pf (0≤((x0.unions.getD x1.toNat default).man:Int)∧((x0.unions.getD x1.toNat default).man:Int)<((x0.people.length:Nat):Int))),gt (!(((!(l1In ((x0.unions.getD x1.toNat default).man) 0 (((x0.people.length:Nat):Int) - 1)))||(!(l1In ((x0.unions.getD x1.toNat default).woman) 0 (((x0.people.length:Nat):Int) - 1))))||(!decide (((x0.people.getD (((x0.unions.getD x1.toNat default).man).toNat) default).sex)=1)))) (pf (0≤((x0.unions.getD x1.toNat default).woman:Int)∧((x0.unions.getD x1.toNat default).woman:Int)<((x0.people.length:Nat):Int)))] [] [0,16,1,1,4,1,1,20,1,6,9,9,9,9,8,9,9,9,14,17,17,17,17,12,17,17,17,22] (cn ((((!(l1In ((x0.unions.getD x1.toNat default).man) 0 (((x0.people.length:Nat):Int) - 1)))||(!(l1In ((x0.unions.getD x1.toNat default).woman) 0 (((x0.people.length:Nat):Int) - 1))))||(!decide (((x0.people.getD (((x0.unions.getD x1.toNat default).man).toNat) default).sex)=1)))||(!decide (((x0.people.getD (((x0.unions.getD x1.toNat default).woman).toNat) default).sex)=2))) (r0 1 [1,2,4,5] [2,5] (rt [] (C83 false))) (.reg 1 [] [(12,cg ((!(decide (9999<((x0.unions.getD x1.toNat default).from0))))&&(!decide (((x0.unions.getD x1.toNat default).to)=(-1)))) (k86 ((x0.unions.getD x1.toNat default).to) ((x0.unions.getD x1.toNat default).from0) 9999))] [1,2,4,5,68] [2,5] [!(decide (9999<((x0.unions.getD x1.toNat default).from0))),(!(decide (9999<((x0.unions.getD x1.toNat default).from0))))&&(!decide (((x0.unions.getD x1.toNat default).to)=(-1))),decide (9999<((x0.unions.getD x1.toNat default).from0))] [gt (!(decide (9999<((x0.unions.getD x1.toNat default).from0)))) (gt (!decide (((x0.unions.getD x1.toNat default).to)=(-1))) (pf (((!(decide (9999<((x0.unions.getD x1.toNat default).from0))))&&(!decide (((x0.unions.getD x1.toNat default).to)=(-1))))=true)))] [] [1,1,1,5,5,5,5,4,5,1,0,10] (cn ((decide (9999<((x0.unions.getD x1.toNat default).from0)))||((!decide (((x0.unions.getD x1.toNat default).to)=(-1)))&&(!(l1In ((x0.unions.getD x1.toNat default).to) ((x0.unions.getD x1.toNat default).from0) 9999)))) (r0 1 [1,2,4,5] [2,5] (rt [] (C83 false))) (.reg 1 [] [(4,bsC 73 (cInt .i64) ([(x0.unions.getD x1.toNat default).man,(x0.unions.getD x1.toNat default).woman]:List Int))] [1,2,4,5,73,74,75] [2,5,73] [] [] [] [0] (lp (D83b1 x0 x1) [] [] [] (D83b1 x0 x1 0 ()) (A83b1 x0 x1)))))))
theorem zne (x0:Family) (x1:Int) (hx:x0.people.length≤1048576) (hu:x0.unions.length≤1048576) (hi:0≤x1∧x1<x0.unions.length):FnT Tryz.prog 83 [.agg (zbx false x0),.int .i64 x1] (C83 (zfz x0 x1)):=by
 have aux:∀ R,zfz x0 x1=R→slim (C83 R) (A83 x0 x1) []:=by
  intro R hR
  refine rg ⟨by trivial,trivial⟩ ?_
  refine rg ⟨by ( intros;simp only [inR];omega),by ( intros;simp only [inR];omega),by ((try clear hR);intros;(try simp only [decide_eq_true_eq,decide_eq_false_iff_not,Bool.or_eq_true,Bool.and_eq_true,zbd,za9,zba,Bool.not_eq_true',inR,l1In] at *);(repeat' apply And.intro)<;>(intros;omega)),by ((try clear hR);intros;(try simp only [decide_eq_true_eq,decide_eq_false_iff_not,Bool.or_eq_true,Bool.and_eq_true,zbd,za9,zba,Bool.not_eq_true',inR,l1In] at *);(repeat' apply And.intro)<;>(intros;omega)),trivial,fun hg0=>trivial,trivial⟩ ?_
  revert hR;refine cd (fun hc1 hR=>?_) fun hc1 hR=>?_
  ·
    refine rg trivial ?_
    exact congrArg C83 hR
  ·
    refine rg ⟨by ((try clear hR);intros;(try simp only [decide_eq_true_eq,decide_eq_false_iff_not,Bool.or_eq_true,Bool.and_eq_true,zbd,za9,zba,Bool.not_eq_true',inR,l1In] at *);(repeat' apply And.intro)<;>(intros;omega)),fun hg0=>trivial,trivial⟩ ?_
    revert hR;refine cd (fun hc2 hR=>?_) fun hc2 hR=>?_
    ·
      refine rg trivial ?_
      exact congrArg C83 hR
    ·
      refine rg ⟨trivial,trivial⟩ ?_
      revert hR;refine lN (fun i v=>True) zai rfl fun i1 v1 F1 hn1 hI1 hR hK1=>?_
      refine rg trivial ?_
      refine ⟨fun hc3=>?_,fun hc3=>?_⟩
      · have hii1:i1<2:=by have:=of_decide_eq_true hc3;omega
        replace hR:=zbj hR hii1
        refine rg ⟨by (intros;omega),by ((try clear hR hK1);intros;(try simp only [decide_eq_true_eq,decide_eq_false_iff_not,Bool.or_eq_true,Bool.and_eq_true,zbd,za9,zba,Bool.not_eq_true',inR,l1In] at *);(repeat' apply And.intro)<;>grind [inR,zcf,zdu,zfd,List.length_set,zhj,l1In]),by ((try clear hR hK1);intros;(try simp only [decide_eq_true_eq,decide_eq_false_iff_not,Bool.or_eq_true,Bool.and_eq_true,zbd,za9,zba,Bool.not_eq_true',inR,l1In] at *);(repeat' apply And.intro)<;>(intros;omega)),by ((try clear hR hK1);intros;(try simp only [decide_eq_true_eq,decide_eq_false_iff_not,Bool.or_eq_true,Bool.and_eq_true,zbd,za9,zba,Bool.not_eq_true',inR,l1In] at *);(repeat' apply And.intro)<;>(intros;omega)),trivial⟩ ?_
        revert hR;refine cd (fun hc4 hR=>?_) fun hc4 hR=>?_
        ·
          refine rg trivial ?_
          exact congrArg C83 hR
        ·
          refine rg ⟨by ( intros;simp only [inR];omega),trivial⟩ ?_
          exact hK1 () hii1 zai hR
      · obtain rfl:i1=2:=by have:=of_decide_eq_false hc3;omega
        replace hR:=zbp hR (Nat.lt_irrefl _)
        refine rg trivial ?_
        revert hR;refine lN (fun i v=>True) zai rfl fun i2 v2 F2 hn2 hI2 hR hK2=>?_
        refine rg trivial ?_
        refine ⟨fun hc5=>?_,fun hc5=>?_⟩
        · have hii2:i2<x1.toNat:=by have:=of_decide_eq_true hc5;omega
          replace hR:=zbj hR hii2
          refine rg ⟨by (intros;omega),by (intros;omega),trivial⟩ ?_
          revert hR;refine cd (fun hc6 hR=>?_) fun hc6 hR=>?_
          ·
            refine rg trivial ?_
            exact congrArg C83 hR
          ·
            refine rg ⟨by ( intros;simp only [inR];omega),trivial⟩ ?_
            exact hK2 () hii2 zai hR
        · obtain rfl:i2=x1.toNat:=by have:=of_decide_eq_false hc5;omega
          replace hR:=zbp hR (Nat.lt_irrefl _)
          refine rg trivial ?_
          exact congrArg C83 hR
 exact Fn.go 134 Tryz.func83 zah zah (by simp [C83,Frs,FrsL]) (A83 x0 x1) zah (aux _ rfl)
def k83 (x0:Family) (x1:Int):Cl:=(hres (C83 (zfz x0 x1)),k3 (zne x0 x1))
end Go.Proofs.YtaageiiodlfeiaaGreat
