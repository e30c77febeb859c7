import Derived.Test.YtaageiiodlfeiaaGreatV4
set_option maxHeartbeats 4000000
set_option linter.unusedSimpArgs false
set_option linter.unusedVariables false
namespace Go.Proofs.YtaageiiodlfeiaaGreat
open Go Go.Lite Go.Proofs
def C77 (R:Bool):LV×List (Nat×BC):=(.bool R,[])
def zca (x0:List UInt8):Bool:=bif ((decide (((x0.length:Nat):Int)<1))||(decide (12<((x0.length:Nat):Int)))) then false else (loopN (fun i1 (v1:Unit) next=>bif ((decide (((x0.getD i1 0).toNat:Int)<97))||(decide (122<((x0.getD i1 0).toNat:Int)))) then false else (next ())) (fun (v1:Unit)=>true) x0.length 0 ())
def D77b1 (x0:List UInt8) (i1:Nat) (v1:Unit):Dl:=⟨[(3,.int .i64 ((i1:Nat):Int))],[]⟩
def A77b1 (x0:List UInt8) (i1:Nat) (v1:Unit):Ann:=r0 1 [0,2,3,15] [] (cn (decide (((i1:Nat):Int)<((x0.length:Nat):Int))) (.reg 1 [] [] [0,2,3,27] [] [!(decide (((x0.getD i1 0).toNat:Int)<97)),decide (((x0.getD i1 0).toNat:Int)<97)] [pf (0≤(((i1:Nat):Int):Int)∧(((i1:Nat):Int):Int)<((x0.length:Nat):Int)),gt (!(decide (((x0.getD i1 0).toNat:Int)<97))) (pf (0≤(((i1:Nat):Int):Int)∧(((i1:Nat):Int):Int)<((x0.length:Nat):Int)))] [] [0,1,1,4,1,6] (cn ((decide (((x0.getD i1 0).toNat:Int)<97))||(decide (122<((x0.getD i1 0).toNat:Int)))) (r0 1 [0,2,3] [] (rt [] (C77 false))) (r1 1 [0,2,3] [] [pf (inR .i64 (((i1:Nat):Int)+1))] [0] (.next 0 [] (D77b1 x0 (i1+1) ()))))) (r0 1 [2] [] (rt [] (C77 true))))
def A77 (x0:List UInt8):Ann:=r0 1 [0,2] [] (.reg 1 [] [] [0,2,11] [] [!(decide (((x0.length:Nat):Int)<1)),decide (((x0.length:Nat):Int)<1)] [] [] [1,1,6] (cn ((decide (((x0.length:Nat):Int)<1))||(decide (12<((x0.length:Nat):Int)))) (r0 1 [0,2] [] (rt [] (C77 false))) (r0 1 [0,2,3] [] (lp (D77b1 x0) [] [] [] (D77b1 x0 0 ()) (A77b1 x0)))))
theorem zpb (x0:List UInt8) (hx:x0.length≤1048576):FnT Tryz.prog 77 [.str x0] (C77 (zca x0)):=by
 have aux:∀ R,zca x0=R→slim (C77 R) (A77 x0) []:=by
  intro R hR
  refine rg trivial ?_
  refine rg trivial ?_
  revert hR;refine cd (fun hc1 hR=>?_) fun hc1 hR=>?_
  ·
    refine rg trivial ?_
    exact congrArg C77 hR
  ·
    refine rg trivial ?_
    revert hR;refine lN (fun i v=>True) zai rfl fun i1 v1 F1 hn1 hI1 hR hK1=>?_
    refine rg trivial ?_
    refine ⟨fun hc2=>?_,fun hc2=>?_⟩
    · have hii1:i1<x0.length:=by have:=of_decide_eq_true hc2;omega
      replace hR:=zbj hR hii1
      refine rg ⟨by (intros;omega),by (intros;omega),trivial⟩ ?_
      revert hR;refine cd (fun hc3 hR=>?_) fun hc3 hR=>?_
      ·
        refine rg trivial ?_
        exact congrArg C77 hR
      ·
        refine rg ⟨by ( intros;simp only [inR];omega),trivial⟩ ?_
        exact hK1 () hii1 zai hR
    · obtain rfl:i1=x0.length:=by have:=of_decide_eq_false hc2;omega
      replace hR:=zbp hR (Nat.lt_irrefl _)
      refine rg trivial ?_
      exact congrArg C77 hR
 exact Fn.go 28 Tryz.func77 zah zah (by simp [C77,Frs,FrsL]) (A77 x0) zah (aux _ rfl)
def k77 (x0:List UInt8):Cl:=(hres (C77 (zca x0)),k1 (zpb x0))
def C78 (R:Bool):LV×List (Nat×BC):=(.bool R,[])
def zcv (x0:List Person) (x1:Int) (x2:Int) (x3:Int) (x4:Int):Bool:=bif (decide (x2=(-1))) then true else (bif ((decide (x2<0))||(decide (x1≤x2))) then false else (((decide (((x0.getD x2.toNat default).sex)=x3))&&(decide (((x0.getD x2.toNat default).born)<((x0.getD x1.toNat default).born))))&&((decide (((x0.getD x2.toNat default).died)=(-1)))||(decide (((x0.getD x1.toNat default).born)≤(IntKind.wrap .i64 (((x0.getD x2.toNat default).died)+x4)))))))
def A78 (x0:List Person) (x1:Int) (x2:Int) (x3:Int) (x4:Int):Ann:=r0 1 [0,1,2,3,4,10] [] (r0 1 [0,1,2,3,4,10,13] [] (cn (decide (x2=(-1))) (r0 1 [0,1,2,3,4,10] [] (rt [] (C78 true))) (.reg 1 [] [] [0,1,2,3,4,10,20] [] [!(decide (x2<0)),decide (x2<0)] [] [] [1,1,6] (cn ((decide (x2<0))||(decide (x1≤x2))) (r0 1 [0,1,2,3,4,10] [] (rt [] (C78 false))) (.reg 2 [(1027,.wrap)] [] [10] [] [decide (((x0.getD x2.toNat default).sex)=x3),(decide (((x0.getD x2.toNat default).sex)=x3))&&(decide (((x0.getD x2.toNat default).born)<((x0.getD x1.toNat default).born))),((decide (((x0.getD x2.toNat default).sex)=x3))&&(decide (((x0.getD x2.toNat default).born)<((x0.getD x1.toNat default).born))))&&(!(decide (((x0.getD x2.toNat default).died)=(-1))))] [pf (0≤(x2:Int)∧(x2:Int)<((x0.length:Nat):Int)),gt (decide (((x0.getD x2.toNat default).sex)=x3)) (pf (0≤(x1:Int)∧(x1:Int)<((x0.length:Nat):Int))),gt (((decide (((x0.getD x2.toNat default).sex)=x3))&&(decide (((x0.getD x2.toNat default).born)<((x0.getD x1.toNat default).born))))&&(!(decide (((x0.getD x2.toNat default).died)=(-1))))) (pf (0≤(x1:Int)∧(x1:Int)<((x0.length:Nat):Int))),gt ((decide (((x0.getD x2.toNat default).sex)=x3))&&(decide (((x0.getD x2.toNat default).born)<((x0.getD x1.toNat default).born)))) (gf (decide (((x0.getD x2.toNat default).died)=(-1))) (pf ((((decide (((x0.getD x2.toNat default).sex)=x3))&&(decide (((x0.getD x2.toNat default).born)<((x0.getD x1.toNat default).born))))&&(!(decide (((x0.getD x2.toNat default).died)=(-1)))))=true)))] [] [0,1,1,1,4,1,1,1,1,1,5,5,5,9,9,8,9,9,9,9,9,9,9,5,12,5] (rt [] (C78 (((decide (((x0.getD x2.toNat default).sex)=x3))&&(decide (((x0.getD x2.toNat default).born)<((x0.getD x1.toNat default).born))))&&((decide (((x0.getD x2.toNat default).died)=(-1)))||(decide (((x0.getD x1.toNat default).born)≤(IntKind.wrap .i64 (((x0.getD x2.toNat default).died)+x4)))))))))))))
theorem zj1 (x0:List Person) (x1:Int) (x2:Int) (x3:Int) (x4:Int) (hx:x0.length≤1048576) (hi:0≤x1∧x1<x0.length):FnT Tryz.prog 78 [.ro false 6 x0.length (rowOf (zbq false) x0),.int .i64 x1,.int .i64 x2,.int .i64 x3,.int .i64 x4] (C78 (zcv x0 x1 x2 x3 x4)):=by
 have aux:∀ R,zcv x0 x1 x2 x3 x4=R→slim (C78 R) (A78 x0 x1 x2 x3 x4) []:=by
  intro R hR
  refine rg trivial ?_
  refine rg trivial ?_
  revert hR;refine cd (fun hc1 hR=>?_) fun hc1 hR=>?_
  ·
    refine rg trivial ?_
    exact congrArg C78 hR
  ·
    refine rg trivial ?_
    revert hR;refine cd (fun hc2 hR=>?_) fun hc2 hR=>?_
    ·
      refine rg trivial ?_
      exact congrArg C78 hR
    ·
      refine rg ⟨by ((try clear hR);intros;(try simp only [decide_eq_true_eq,decide_eq_false_iff_not,Bool.or_eq_true,Bool.and_eq_true,zbd,za9,zba,Bool.not_eq_true',inR] at *);(repeat' apply And.intro)<;>(intros;omega)),by (intros;omega),by (intros;omega),by ((try clear hR);intros;(try simp only [decide_eq_true_eq,decide_eq_false_iff_not,Bool.or_eq_true,Bool.and_eq_true,zbd,za9,zba,Bool.not_eq_true',inR] at *);(repeat' apply And.intro)<;>(intros;omega)),trivial⟩ ?_
      exact congrArg C78 hR
 exact Fn.go 56 Tryz.func78 zah zah (by simp [C78,Frs,FrsL]) (A78 x0 x1 x2 x3 x4) zah (aux _ rfl)
def k78 (x0:List Person) (x1:Int) (x2:Int) (x3:Int) (x4:Int):Cl:=(hres (C78 (zcv x0 x1 x2 x3 x4)),k2 (zj1 x0 x1 x2 x3 x4))
def C79 (R:(List Int)):LV×List (Nat×BC):=(.own 0,[(0,.arr 1 R.length (rowOf (cInt .i64) R))])
def zgx (x0:List Person):(List Int):=loopN (fun i1 (v1:(List Int)) nx1=>loopN (fun i2 (v2:(List Int)) next=>bif (decide (0≤([(x0.getD i1 default).father,(x0.getD i1 default).mother].getD i2 default))) then (next (v2.set i1 (Max.max (v2.getD i1 default) ((v2.getD (([(x0.getD i1 default).father,(x0.getD i1 default).mother].getD i2 default).toNat) default)+1)))) else (next v2)) (fun (v2:(List Int))=>nx1 v2) 2 0 v1) (fun (v1:(List Int))=>v1) x0.length 0 (List.replicate x0.length (default:Int))
def D79b1 (x0:List Person) (i1:Nat) (v1:(List Int)):Dl:=⟨[(13,.int .i64 ((i1:Nat):Int)),(3,.own 20003)],[(20003,.arr 1 x0.length (rowOf (cInt .i64) v1))]⟩
def D79b2 (x0:List Person) (i1:Nat) (v1:(List Int)) (i2:Nat) (v2:(List Int)):Dl:=⟨[(24,.int .i64 ((i2:Nat):Int)),(3,.own 30003)],[(30003,.arr 1 x0.length (rowOf (cInt .i64) v2))]⟩
def A79b2 (x0:List Person) (i1:Nat) (v1:(List Int)) (i2:Nat) (v2:(List Int)):Ann:=r0 1 [2,3,4,11,12,13,22,23,24,25] [22,30003] (cn (decide (((i2:Nat):Int)<2)) (r1 2 [2,3,4,7,11,12,13,22,23,24,29] [22,30003] [pf (0≤(((i2:Nat):Int):Int)∧(((i2:Nat):Int):Int)<((2:Nat):Int))] [0] (cn (decide (0≤([(x0.getD i1 default).father,(x0.getD i1 default).mother].getD i2 default))) (.reg 1 [] [(13,stC 30003 (cInt .i64) x0.length v2 i1 (Max.max (v2.getD i1 default) ((v2.getD (([(x0.getD i1 default).father,(x0.getD i1 default).mother].getD i2 default).toNat) default)+1)))] [2,3,4,11,12,13,22,23,24] [22,30003] [] [pf (0≤(((i1:Nat):Int):Int)∧(((i1:Nat):Int):Int)<((x0.length:Nat):Int)),pf (0≤(([(x0.getD i1 default).father,(x0.getD i1 default).mother].getD i2 default):Int)∧(([(x0.getD i1 default).father,(x0.getD i1 default).mother].getD i2 default):Int)<((x0.length:Nat):Int)),pf (inR .i64 ((v2.getD (([(x0.getD i1 default).father,(x0.getD i1 default).mother].getD i2 default).toNat) default)+1))] [] [0,4,8,0,12] (r1 1 [2,3,4,11,12,13,22,23,24] [22,30003] [pf (inR .i64 (((i2:Nat):Int)+1))] [0] (.next 0 [(30003,some 30003)] (D79b2 x0 i1 v1 (i2+1) (v2.set i1 (Max.max (v2.getD i1 default) ((v2.getD (([(x0.getD i1 default).father,(x0.getD i1 default).mother].getD i2 default).toNat) default)+1))))))) (r1 1 [2,3,4,11,12,13,22,23,24] [22,30003] [pf (inR .i64 (((i2:Nat):Int)+1))] [0] (.next 0 [(30003,some 30003)] (D79b2 x0 i1 v1 (i2+1) v2))))) (r1 1 [2,3,11,12,13] [30003] [pf (inR .i64 (((i1:Nat):Int)+1))] [0] (.next 1 [(20003,some 30003)] (D79b1 x0 (i1+1) v2))))
def A79b1 (x0:List Person) (i1:Nat) (v1:(List Int)):Ann:=r0 1 [2,3,11,12,13,14] [20003] (cn (decide (((i1:Nat):Int)<((x0.length:Nat):Int))) (.reg 2 [] [(1004,bsC 22 (cInt .i64) ([(x0.getD i1 default).father,(x0.getD i1 default).mother]:List Int))] [2,3,4,11,12,13,22,23,24] [22,20003] [] [pf (0≤(((i1:Nat):Int):Int)∧(((i1:Nat):Int):Int)<((x0.length:Nat):Int))] [] [0,4] (lp (D79b2 x0 i1 v1) [] [20003] [(30003,some 20003)] (D79b2 x0 i1 v1 0 v1) (A79b2 x0 i1 v1))) (r0 1 [2] [20003] (.co false 20003 v1.length (rowOf (cInt .i64) v1) [lnP (rowOf (cInt .i64) v1) x0.length v1.length] [] 0 (rt [(0,some 20003)] (C79 v1)))))
def A79 (x0:List Person):Ann:=.reg 2 [] [(1002,msC 10 (cInt .i64) 8 ((x0.length:Nat):Int) ((x0.length:Nat):Int) x0.length (default:Int) (rfl))] [0,2,3] [10] [] [] [] [0] (r0 1 [2,3,11,12,13] [10] (lp (D79b1 x0) [] [10] [(20003,some 10)] (D79b1 x0 0 (List.replicate x0.length (default:Int))) (A79b1 x0)))
theorem zwm (x:List Person):(zgx x).length=x.length:=by
 unfold zgx
 refine zb3 (fun i (v:List Int)=>v.length=x.length) (fun (r:List Int)=>r.length=x.length) zaj (fun i v next _ hv hn=>?_) (fun v hv=>hv)
 refine zb3 (fun i (v:List Int)=>v.length=x.length) (fun (r:List Int)=>r.length=x.length) hv (fun i v next _ hv hn=>?_) (fun v hv=>hn _ hv)
 exact zbm (p:=fun (r:List Int)=>r.length=x.length) (fun _=>hn _ (by simp [hv])) (fun _=>hn _ hv)
theorem zo8 (x0:List Person) (hx:x0.length≤1048576) (hp:∀ (k:Nat),k<x0.length→(x0.getD k default).father<k∧(x0.getD k default).mother<k):FnT Tryz.prog 79 [.ro false 6 x0.length (rowOf (zbq false) x0)] (C79 (zgx x0)):=by
 have aux:∀ R,zgx x0=R→slim (C79 R) (A79 x0) []:=by
  intro R hR
  refine rg ⟨by (intros;omega),trivial⟩ ?_
  refine rg trivial ?_
  revert hR;refine lN (fun i v=>Rg v x0.length (fun j v=>0≤v∧v≤j)) (by (exact Rg.rep (fun k hk=>show 0≤(0:Int)∧(0:Int)≤k from ⟨om,om⟩))) rfl fun i1 v1 F1 hn1 hI1 hR hK1=>?_
  refine rg trivial ?_
  refine ⟨fun hc1=>?_,fun hc1=>?_⟩
  ·have hii1:i1<x0.length:=by have:=of_decide_eq_true hc1;omega
   replace hR:=zbj hR hii1
   refine rg ⟨by (intros;omega),trivial,trivial⟩ ?_
   revert hR;refine lN (fun i v=>Rg v x0.length (fun j v=>0≤v∧v≤j)) zai rfl fun i2 v2 F2 hn2 hI2 hR hK2=>?_
   refine rg trivial ?_
   refine ⟨fun hc2=>?_,fun hc2=>?_⟩
   ·have hii2:i2<2:=by have:=of_decide_eq_true hc2;omega
    replace hR:=zbj hR hii2
    refine rg ⟨by (intros;omega),trivial⟩ ?_
    revert hR;refine cd (fun hc3 hR=>?_) fun hc3 hR=>?_
    ·
      refine rg ⟨by (intros;omega),by ((try clear hR hK1 hK2);intros;(try simp only [decide_eq_true_eq,decide_eq_false_iff_not,Bool.or_eq_true,Bool.and_eq_true,zbd,za9,zba,Bool.not_eq_true',inR] at *);(repeat' apply And.intro)<;>(first | (intros;omega) | (have h1:=hp i1 hii1;have h2:=znb (p:=fun q=>q<(i1:Int)) (d:=default) h1.1 h1.2 hii2;have:=hI2.len;omega))),by ((try clear hR hK1 hK2);intros;(try simp only [decide_eq_true_eq,decide_eq_false_iff_not,Bool.or_eq_true,Bool.and_eq_true,zbd,za9,zba,Bool.not_eq_true',inR] at *);(repeat' apply And.intro)<;>(have h1:=hp i1 hii1;have h2:=znb (p:=fun q=>q<(i1:Int)) (d:=default) h1.1 h1.2 hii2;have:=hI2.get _ (show ([(x0.getD i1 default).father,(x0.getD i1 default).mother].getD i2 default).toNat<x0.length by omega);omega)),by (have:=hI2.len;omega),trivial⟩ ?_
      refine rg ⟨by ( intros;simp only [inR];omega),trivial⟩ ?_
      exact hK2 (v2.set i1 (Max.max (v2.getD i1 default) ((v2.getD (([(x0.getD i1 default).father,(x0.getD i1 default).mother].getD i2 default).toNat) default)+1))) hii2 (by ((try clear hR hK1 hK2);intros;(try simp only [decide_eq_true_eq,decide_eq_false_iff_not,Bool.or_eq_true,Bool.and_eq_true,zbd,za9,zba,Bool.not_eq_true',inR] at *);(repeat' apply And.intro)<;>(have h1:=hp i1 hii1;have h2:=znb (p:=fun q=>q<(i1:Int)) (d:=default) h1.1 h1.2 hii2;have h3:=hI2.get _ (show ([(x0.getD i1 default).father,(x0.getD i1 default).mother].getD i2 default).toNat<x0.length by omega);have h4:=hI2.get i1 hii1;exact Rg.set hI2 (fun _=>by omega)))) hR
    ·
      refine rg ⟨by ( intros;simp only [inR];omega),trivial⟩ ?_
      exact hK2 v2 hii2 zai hR
   ·obtain rfl:i2=2:=by have:=of_decide_eq_false hc2;omega
    replace hR:=zbp hR (Nat.lt_irrefl _)
    refine rg ⟨by ( intros;simp only [inR];omega),trivial⟩ ?_
    exact hK1 v2 hii1 zai hR
  ·obtain rfl:i1=x0.length:=by have:=of_decide_eq_false hc1;omega
   replace hR:=zbp hR (Nat.lt_irrefl _)
   refine rg trivial ?_
   refine og (by (have:=hI1.len;omega)) ?_
   exact congrArg C79 hR
 exact Fn.go 46 Tryz.func79 zah zah (by simp [C79,Frs,FrsL,FrsB,rowOf,cInt,cBool,cStr,cSl,zce,zbq,zb4,zbx]) (A79 x0) zah (aux _ rfl)
def k79 (x0:List Person):Cl:=(hres (C79 (zgx x0)),k2 (zo8 x0))
def C80 (R:Bool):LV×List (Nat×BC):=(.bool R,[])
def zft (x0:Family) (x1:Int):Bool:=bif ((((decide (((x0.unions.getD x1.toNat default).man)<0))||(decide (((x0.people.length:Nat):Int)≤((x0.unions.getD x1.toNat default).man))))||(decide (((x0.unions.getD x1.toNat default).woman)<0)))||(decide (((x0.people.length:Nat):Int)≤((x0.unions.getD x1.toNat default).woman)))) then false else (bif ((((((!decide (((x0.people.getD (((x0.unions.getD x1.toNat default).man).toNat) default).sex)=1))||(!decide (((x0.people.getD (((x0.unions.getD x1.toNat default).woman).toNat) default).sex)=2)))||(decide (9999<((x0.unions.getD x1.toNat default).from0))))||(decide (((x0.unions.getD x1.toNat default).from0)<((x0.people.getD (((x0.unions.getD x1.toNat default).man).toNat) default).born))))||(decide (((x0.unions.getD x1.toNat default).from0)<((x0.people.getD (((x0.unions.getD x1.toNat default).woman).toNat) default).born))))||((!decide (((x0.unions.getD x1.toNat default).to)=(-1)))&&((decide (((x0.unions.getD x1.toNat default).to)<((x0.unions.getD x1.toNat default).from0)))||(decide (9999<((x0.unions.getD x1.toNat default).to)))))) then false else (loopN (fun i1 (v1:Unit) next=>bif ((!decide ((([(x0.people.getD (((x0.unions.getD x1.toNat default).man).toNat) default),(x0.people.getD (((x0.unions.getD x1.toNat default).woman).toNat) default)].getD i1 default).died)=(-1)))&&((decide ((([(x0.people.getD (((x0.unions.getD x1.toNat default).man).toNat) default),(x0.people.getD (((x0.unions.getD x1.toNat default).woman).toNat) default)].getD i1 default).died)<((x0.unions.getD x1.toNat default).from0)))||((!decide (((x0.unions.getD x1.toNat default).to)=(-1)))&&(decide ((([(x0.people.getD (((x0.unions.getD x1.toNat default).man).toNat) default),(x0.people.getD (((x0.unions.getD x1.toNat default).woman).toNat) default)].getD i1 default).died)<((x0.unions.getD x1.toNat default).to)))))) then false else (next ())) (fun (v1:Unit)=>loopN (fun i2 (v2:Unit) next=>bif ((decide (((x0.unions.getD (0+i2) default).man)=((x0.unions.getD x1.toNat default).man)))&&(decide (((x0.unions.getD (0+i2) default).woman)=((x0.unions.getD x1.toNat default).woman)))) then false else (next ())) (fun (v2:Unit)=>true) (x1.toNat - 0) 0 ()) 2 0 ()))
def D80b1 (x0:Family) (x1:Int) (i1:Nat) (v1:Unit):Dl:=⟨[(101,.int .i64 ((i1:Nat):Int))],[]⟩
def D80b2 (x0:Family) (x1:Int) (i1:Nat) (v1:Unit) (i2:Nat) (v2:Unit):Dl:=⟨[(133,.int .i64 ((i2:Nat):Int))],[]⟩
def A80b2 (x0:Family) (x1:Int) (i1:Nat) (v1:Unit) (i2:Nat) (v2:Unit):Ann:=r0 1 [4,5,131,132,133,134] [5] (cn (decide (((i2:Nat):Int)<((x1.toNat - 0:Nat):Int))) (.reg 2 [] [] [4,5,131,132,133,148] [5] [decide (((x0.unions.getD (0+i2) default).man)=((x0.unions.getD x1.toNat default).man))] [pf (0≤(((i2:Nat):Int):Int)∧(((i2:Nat):Int):Int)<((x1.toNat - 0:Nat):Int))] [] [0,1,1,1,1,1] (cn ((decide (((x0.unions.getD (0+i2) default).man)=((x0.unions.getD x1.toNat default).man)))&&(decide (((x0.unions.getD (0+i2) default).woman)=((x0.unions.getD x1.toNat default).woman)))) (r0 1 [4,5,131,132,133] [5] (rt [] (C80 false))) (r1 1 [4,5,131,132,133] [5] [pf (inR .i64 (((i2:Nat):Int)+1))] [0] (.next 0 [] (D80b2 x0 x1 i1 v1 (i2+1) ()))))) (r0 1 [4] [] (rt [] (C80 true))))
def A80b1 (x0:Family) (x1:Int) (i1:Nat) (v1:Unit):Ann:=r0 1 [1,2,4,5,99,100,101,102] [2,5,99] (cn (decide (((i1:Nat):Int)<2)) (.reg 2 [] [] [1,2,4,5,99,100,101,126] [2,5,99] [!decide ((([(x0.people.getD (((x0.unions.getD x1.toNat default).man).toNat) default),(x0.people.getD (((x0.unions.getD x1.toNat default).woman).toNat) default)].getD i1 default).died)=(-1)),(!decide ((([(x0.people.getD (((x0.unions.getD x1.toNat default).man).toNat) default),(x0.people.getD (((x0.unions.getD x1.toNat default).woman).toNat) default)].getD i1 default).died)=(-1)))&&(!(decide ((([(x0.people.getD (((x0.unions.getD x1.toNat default).man).toNat) default),(x0.people.getD (((x0.unions.getD x1.toNat default).woman).toNat) default)].getD i1 default).died)<((x0.unions.getD x1.toNat default).from0)))),((!decide ((([(x0.people.getD (((x0.unions.getD x1.toNat default).man).toNat) default),(x0.people.getD (((x0.unions.getD x1.toNat default).woman).toNat) default)].getD i1 default).died)=(-1)))&&(!(decide ((([(x0.people.getD (((x0.unions.getD x1.toNat default).man).toNat) default),(x0.people.getD (((x0.unions.getD x1.toNat default).woman).toNat) default)].getD i1 default).died)<((x0.unions.getD x1.toNat default).from0)))))&&(!decide (((x0.unions.getD x1.toNat default).to)=(-1)))] [pf (0≤(((i1:Nat):Int):Int)∧(((i1:Nat):Int):Int)<((2:Nat):Int)),gt ((!decide ((([(x0.people.getD (((x0.unions.getD x1.toNat default).man).toNat) default),(x0.people.getD (((x0.unions.getD x1.toNat default).woman).toNat) default)].getD i1 default).died)=(-1)))&&(!(decide ((([(x0.people.getD (((x0.unions.getD x1.toNat default).man).toNat) default),(x0.people.getD (((x0.unions.getD x1.toNat default).woman).toNat) default)].getD i1 default).died)<((x0.unions.getD x1.toNat default).from0))))) (gt (!decide (((x0.unions.getD x1.toNat default).to)=(-1))) (pf ((((!decide ((([(x0.people.getD (((x0.unions.getD x1.toNat default).man).toNat) default),(x0.people.getD (((x0.unions.getD x1.toNat default).woman).toNat) default)].getD i1 default).died)=(-1)))&&(!(decide ((([(x0.people.getD (((x0.unions.getD x1.toNat default).man).toNat) default),(x0.people.getD (((x0.unions.getD x1.toNat default).woman).toNat) default)].getD i1 default).died)<((x0.unions.getD x1.toNat default).from0)))))&&(!decide (((x0.unions.getD x1.toNat default).to)=(-1))))=true))),gt (!decide ((([(x0.people.getD (((x0.unions.getD x1.toNat default).man).toNat) default),(x0.people.getD (((x0.unions.getD x1.toNat default).woman).toNat) default)].getD i1 default).died)=(-1))) (gf (decide ((([(x0.people.getD (((x0.unions.getD x1.toNat default).man).toNat) default),(x0.people.getD (((x0.unions.getD x1.toNat default).woman).toNat) default)].getD i1 default).died)<((x0.unions.getD x1.toNat default).from0))) (pf (((!decide ((([(x0.people.getD (((x0.unions.getD x1.toNat default).man).toNat) default),(x0.people.getD (((x0.unions.getD x1.toNat default).woman).toNat) default)].getD i1 default).died)=(-1)))&&(!(decide ((([(x0.people.getD (((x0.unions.getD x1.toNat default).man).toNat) default),(x0.people.getD (((x0.unions.getD x1.toNat default).woman).toNat) default)].getD i1 default).died)<((x0.unions.getD x1.toNat default).from0)))))=true)))] [] [0,1,1,1,1,1,5,5,5,9,9,9,9,5,4,1,8,1] (cn ((!decide ((([(x0.people.getD (((x0.unions.getD x1.toNat default).man).toNat) default),(x0.people.getD (((x0.unions.getD x1.toNat default).woman).toNat) default)].getD i1 default).died)=(-1)))&&((decide ((([(x0.people.getD (((x0.unions.getD x1.toNat default).man).toNat) default),(x0.people.getD (((x0.unions.getD x1.toNat default).woman).toNat) default)].getD i1 default).died)<((x0.unions.getD x1.toNat default).from0)))||((!decide (((x0.unions.getD x1.toNat default).to)=(-1)))&&(decide ((([(x0.people.getD (((x0.unions.getD x1.toNat default).man).toNat) default),(x0.people.getD (((x0.unions.getD x1.toNat default).woman).toNat) default)].getD i1 default).died)<((x0.unions.getD x1.toNat default).to)))))) (r0 1 [1,2,4,5,99,100,101] [2,5,99] (rt [] (C80 false))) (r1 1 [1,2,4,5,99,100,101] [2,5,99] [pf (inR .i64 (((i1:Nat):Int)+1))] [0] (.next 0 [] (D80b1 x0 x1 (i1+1) ()))))) (r1 1 [4,5,131,132,133] [5] [pf (0≤(0:Int)∧(0:Int)≤x1∧(x1:Int)≤((x0.unions.length:Nat):Int))] [0] (lp (D80b2 x0 x1 i1 v1) [] [] [] (D80b2 x0 x1 i1 v1 0 ()) (A80b2 x0 x1 i1 v1))))
def A80 (x0:Family) (x1:Int):Ann:=r1 2 [1,2,4,5] [2,5] [pf (0≤(x1:Int)∧(x1:Int)<((x0.unions.length:Nat):Int))] [0] (.reg 1 [] [] [1,2,4,5,40] [2,5] [!(decide (((x0.unions.getD x1.toNat default).man)<0)),decide (((x0.unions.getD x1.toNat default).man)<0),!((decide (((x0.unions.getD x1.toNat default).man)<0))||(decide (((x0.people.length:Nat):Int)≤((x0.unions.getD x1.toNat default).man)))),(decide (((x0.unions.getD x1.toNat default).man)<0))||(decide (((x0.people.length:Nat):Int)≤((x0.unions.getD x1.toNat default).man))),!(((decide (((x0.unions.getD x1.toNat default).man)<0))||(decide (((x0.people.length:Nat):Int)≤((x0.unions.getD x1.toNat default).man))))||(decide (((x0.unions.getD x1.toNat default).woman)<0))),((decide (((x0.unions.getD x1.toNat default).man)<0))||(decide (((x0.people.length:Nat):Int)≤((x0.unions.getD x1.toNat default).man))))||(decide (((x0.unions.getD x1.toNat default).woman)<0))] [] [] [1,1,1,1,1,6,9,9,14,17,17,17,17,17,22] (cn ((((decide (((x0.unions.getD x1.toNat default).man)<0))||(decide (((x0.people.length:Nat):Int)≤((x0.unions.getD x1.toNat default).man))))||(decide (((x0.unions.getD x1.toNat default).woman)<0)))||(decide (((x0.people.length:Nat):Int)≤((x0.unions.getD x1.toNat default).woman)))) (r0 1 [1,2,4,5] [2,5] (rt [] (C80 false))) (r1 1 [1,2,4,5,6,7] [2,5,6,7] [pf (0≤((x0.unions.getD x1.toNat default).man:Int)∧((x0.unions.getD x1.toNat default).man:Int)<((x0.people.length:Nat):Int)),pf (0≤((x0.unions.getD x1.toNat default).woman:Int)∧((x0.unions.getD x1.toNat default).woman:Int)<((x0.people.length:Nat):Int))] [0,4] (.reg 1 [] [] [1,2,4,5,6,7,96] [2,5,6,7] [!(!decide (((x0.people.getD (((x0.unions.getD x1.toNat default).man).toNat) default).sex)=1)),!decide (((x0.people.getD (((x0.unions.getD x1.toNat default).man).toNat) default).sex)=1),!((!decide (((x0.people.getD (((x0.unions.getD x1.toNat default).man).toNat) default).sex)=1))||(!decide (((x0.people.getD (((x0.unions.getD x1.toNat default).woman).toNat) default).sex)=2))),(!decide (((x0.people.getD (((x0.unions.getD x1.toNat default).man).toNat) default).sex)=1))||(!decide (((x0.people.getD (((x0.unions.getD x1.toNat default).woman).toNat) default).sex)=2)),!(((!decide (((x0.people.getD (((x0.unions.getD x1.toNat default).man).toNat) default).sex)=1))||(!decide (((x0.people.getD (((x0.unions.getD x1.toNat default).woman).toNat) default).sex)=2)))||(decide (9999<((x0.unions.getD x1.toNat default).from0)))),((!decide (((x0.people.getD (((x0.unions.getD x1.toNat default).man).toNat) default).sex)=1))||(!decide (((x0.people.getD (((x0.unions.getD x1.toNat default).woman).toNat) default).sex)=2)))||(decide (9999<((x0.unions.getD x1.toNat default).from0))),!((((!decide (((x0.people.getD (((x0.unions.getD x1.toNat default).man).toNat) default).sex)=1))||(!decide (((x0.people.getD (((x0.unions.getD x1.toNat default).woman).toNat) default).sex)=2)))||(decide (9999<((x0.unions.getD x1.toNat default).from0))))||(decide (((x0.unions.getD x1.toNat default).from0)<((x0.people.getD (((x0.unions.getD x1.toNat default).man).toNat) default).born)))),(((!decide (((x0.people.getD (((x0.unions.getD x1.toNat default).man).toNat) default).sex)=1))||(!decide (((x0.people.getD (((x0.unions.getD x1.toNat default).woman).toNat) default).sex)=2)))||(decide (9999<((x0.unions.getD x1.toNat default).from0))))||(decide (((x0.unions.getD x1.toNat default).from0)<((x0.people.getD (((x0.unions.getD x1.toNat default).man).toNat) default).born))),!(((((!decide (((x0.people.getD (((x0.unions.getD x1.toNat default).man).toNat) default).sex)=1))||(!decide (((x0.people.getD (((x0.unions.getD x1.toNat default).woman).toNat) default).sex)=2)))||(decide (9999<((x0.unions.getD x1.toNat default).from0))))||(decide (((x0.unions.getD x1.toNat default).from0)<((x0.people.getD (((x0.unions.getD x1.toNat default).man).toNat) default).born))))||(decide (((x0.unions.getD x1.toNat default).from0)<((x0.people.getD (((x0.unions.getD x1.toNat default).woman).toNat) default).born)))),(!(((((!decide (((x0.people.getD (((x0.unions.getD x1.toNat default).man).toNat) default).sex)=1))||(!decide (((x0.people.getD (((x0.unions.getD x1.toNat default).woman).toNat) default).sex)=2)))||(decide (9999<((x0.unions.getD x1.toNat default).from0))))||(decide (((x0.unions.getD x1.toNat default).from0)<((x0.people.getD (((x0.unions.getD x1.toNat default).man).toNat) default).born))))||(decide (((x0.unions.getD x1.toNat default).from0)<((x0.people.getD (((x0.unions.getD x1.toNat default).woman).toNat) default).born)))))&&(!decide (((x0.unions.getD x1.toNat default).to)=(-1))),((!(((((!decide (((x0.people.getD (((x0.unions.getD x1.toNat default).man).toNat) default).sex)=1))||(!decide (((x0.people.getD (((x0.unions.getD x1.toNat default).woman).toNat) default).sex)=2)))||(decide (9999<((x0.unions.getD x1.toNat default).from0))))||(decide (((x0.unions.getD x1.toNat default).from0)<((x0.people.getD (((x0.unions.getD x1.toNat default).man).toNat) default).born))))||(decide (((x0.unions.getD x1.toNat default).from0)<((x0.people.getD (((x0.unions.getD x1.toNat default).woman).toNat) default).born)))))&&(!decide (((x0.unions.getD x1.toNat default).to)=(-1))))&&(!(decide (((x0.unions.getD x1.toNat default).to)<((x0.unions.getD x1.toNat default).from0)))),((((!decide (((x0.people.getD (((x0.unions.getD x1.toNat default).man).toNat) default).sex)=1))||(!decide (((x0.people.getD (((x0.unions.getD x1.toNat default).woman).toNat) default).sex)=2)))||(decide (9999<((x0.unions.getD x1.toNat default).from0))))||(decide (((x0.unions.getD x1.toNat default).from0)<((x0.people.getD (((x0.unions.getD x1.toNat default).man).toNat) default).born))))||(decide (((x0.unions.getD x1.toNat default).from0)<((x0.people.getD (((x0.unions.getD x1.toNat default).woman).toNat) default).born)))] [gt ((!(((((!decide (((x0.people.getD (((x0.unions.getD x1.toNat default).man).toNat) default).sex)=1))||(!decide (((x0.people.getD (((x0.unions.getD x1.toNat default).woman).toNat) default).sex)=2)))||(decide (9999<((x0.unions.getD x1.toNat default).from0))))||(decide (((x0.unions.getD x1.toNat default).from0)<((x0.people.getD (((x0.unions.getD x1.toNat default).man).toNat) default).born))))||(decide (((x0.unions.getD x1.toNat default).from0)<((x0.people.getD (((x0.unions.getD x1.toNat default).woman).toNat) default).born)))))&&(!decide (((x0.unions.getD x1.toNat default).to)=(-1)))) (gf (decide (((x0.unions.getD x1.toNat default).to)<((x0.unions.getD x1.toNat default).from0))) (pf ((((!(((((!decide (((x0.people.getD (((x0.unions.getD x1.toNat default).man).toNat) default).sex)=1))||(!decide (((x0.people.getD (((x0.unions.getD x1.toNat default).woman).toNat) default).sex)=2)))||(decide (9999<((x0.unions.getD x1.toNat default).from0))))||(decide (((x0.unions.getD x1.toNat default).from0)<((x0.people.getD (((x0.unions.getD x1.toNat default).man).toNat) default).born))))||(decide (((x0.unions.getD x1.toNat default).from0)<((x0.people.getD (((x0.unions.getD x1.toNat default).woman).toNat) default).born)))))&&(!decide (((x0.unions.getD x1.toNat default).to)=(-1))))&&(!(decide (((x0.unions.getD x1.toNat default).to)<((x0.unions.getD x1.toNat default).from0)))))=true))),gt (!(((((!decide (((x0.people.getD (((x0.unions.getD x1.toNat default).man).toNat) default).sex)=1))||(!decide (((x0.people.getD (((x0.unions.getD x1.toNat default).woman).toNat) default).sex)=2)))||(decide (9999<((x0.unions.getD x1.toNat default).from0))))||(decide (((x0.unions.getD x1.toNat default).from0)<((x0.people.getD (((x0.unions.getD x1.toNat default).man).toNat) default).born))))||(decide (((x0.unions.getD x1.toNat default).from0)<((x0.people.getD (((x0.unions.getD x1.toNat default).woman).toNat) default).born))))) (gt (!decide (((x0.unions.getD x1.toNat default).to)=(-1))) (pf (((!(((((!decide (((x0.people.getD (((x0.unions.getD x1.toNat default).man).toNat) default).sex)=1))||(!decide (((x0.people.getD (((x0.unions.getD x1.toNat default).woman).toNat) default).sex)=2)))||(decide (9999<((x0.unions.getD x1.toNat default).from0))))||(decide (((x0.unions.getD x1.toNat default).from0)<((x0.people.getD (((x0.unions.getD x1.toNat default).man).toNat) default).born))))||(decide (((x0.unions.getD x1.toNat default).from0)<((x0.people.getD (((x0.unions.getD x1.toNat default).woman).toNat) default).born)))))&&(!decide (((x0.unions.getD x1.toNat default).to)=(-1))))=true)))] [] [1,1,6,9,9,14,17,17,17,17,22,25,25,25,25,30,33,33,33,37,37,37,37,37,41,41,37,0,33,4,46] (cn ((((((!decide (((x0.people.getD (((x0.unions.getD x1.toNat default).man).toNat) default).sex)=1))||(!decide (((x0.people.getD (((x0.unions.getD x1.toNat default).woman).toNat) default).sex)=2)))||(decide (9999<((x0.unions.getD x1.toNat default).from0))))||(decide (((x0.unions.getD x1.toNat default).from0)<((x0.people.getD (((x0.unions.getD x1.toNat default).man).toNat) default).born))))||(decide (((x0.unions.getD x1.toNat default).from0)<((x0.people.getD (((x0.unions.getD x1.toNat default).woman).toNat) default).born))))||((!decide (((x0.unions.getD x1.toNat default).to)=(-1)))&&((decide (((x0.unions.getD x1.toNat default).to)<((x0.unions.getD x1.toNat default).from0)))||(decide (9999<((x0.unions.getD x1.toNat default).to)))))) (r0 1 [1,2,4,5,6,7] [2,5,6,7] (rt [] (C80 false))) (.reg 1 [] [(2,bsC 99 (zbq true) ([(x0.people.getD (((x0.unions.getD x1.toNat default).man).toNat) default),(x0.people.getD (((x0.unions.getD x1.toNat default).woman).toNat) default)]:List Person))] [1,2,4,5,99,100,101] [2,5,99] [] [] [] [0] (lp (D80b1 x0 x1) [] [] [] (D80b1 x0 x1 0 ()) (A80b1 x0 x1))))))))
theorem zk1 (x0:Family) (x1:Int) (hx:x0.people.length≤1048576) (hu:x0.unions.length≤1048576) (hi:0≤x1∧x1<x0.unions.length):FnT Tryz.prog 80 [.agg (zbx false x0),.int .i64 x1] (C80 (zft x0 x1)):=by
 have aux:∀ R,zft x0 x1=R→slim (C80 R) (A80 x0 x1) []:=by
  intro R hR
  refine rg ⟨by trivial,trivial⟩ ?_
  refine rg trivial ?_
  revert hR;refine cd (fun hc1 hR=>?_) fun hc1 hR=>?_
  ·
    refine rg trivial ?_
    exact congrArg C80 hR
  ·
    refine rg ⟨by ((try clear hR);intros;(try simp only [decide_eq_true_eq,decide_eq_false_iff_not,Bool.or_eq_true,Bool.and_eq_true,zbd,za9,zba,Bool.not_eq_true',inR] at *);(repeat' apply And.intro)<;>(intros;omega)),by ((try clear hR);intros;(try simp only [decide_eq_true_eq,decide_eq_false_iff_not,Bool.or_eq_true,Bool.and_eq_true,zbd,za9,zba,Bool.not_eq_true',inR] at *);(repeat' apply And.intro)<;>(intros;omega)),trivial⟩ ?_
    refine rg ⟨by ((try clear hR);intros;(try simp only [decide_eq_true_eq,decide_eq_false_iff_not,Bool.or_eq_true,Bool.and_eq_true,zbd,za9,zba,Bool.not_eq_true',inR] at *);(repeat' apply And.intro)<;>(intros;omega)),by ((try clear hR);intros;(try simp only [decide_eq_true_eq,decide_eq_false_iff_not,Bool.or_eq_true,Bool.and_eq_true,zbd,za9,zba,Bool.not_eq_true',inR] at *);(repeat' apply And.intro)<;>(intros;omega)),trivial⟩ ?_
    revert hR;refine cd (fun hc2 hR=>?_) fun hc2 hR=>?_
    ·
      refine rg trivial ?_
      exact congrArg C80 hR
    ·
      refine rg ⟨trivial,trivial⟩ ?_
      revert hR;refine lN (fun i v=>True) zai rfl fun i1 v1 F1 hn1 hI1 hR hK1=>?_
      refine rg trivial ?_
      refine ⟨fun hc3=>?_,fun hc3=>?_⟩
      · have hii1:i1<2:=by have:=of_decide_eq_true hc3;omega
        replace hR:=zbj hR hii1
        refine rg ⟨by (intros;omega),by ((try clear hR hK1);intros;(try simp only [decide_eq_true_eq,decide_eq_false_iff_not,Bool.or_eq_true,Bool.and_eq_true,zbd,za9,zba,Bool.not_eq_true',inR] at *);(repeat' apply And.intro)<;>(intros;omega)),by ((try clear hR hK1);intros;(try simp only [decide_eq_true_eq,decide_eq_false_iff_not,Bool.or_eq_true,Bool.and_eq_true,zbd,za9,zba,Bool.not_eq_true',inR] at *);(repeat' apply And.intro)<;>(intros;omega)),trivial⟩ ?_
        revert hR;refine cd (fun hc4 hR=>?_) fun hc4 hR=>?_
        ·
          refine rg trivial ?_
          exact congrArg C80 hR
        ·
          refine rg ⟨by ( intros;simp only [inR];omega),trivial⟩ ?_
          exact hK1 () hii1 zai hR
      · obtain rfl:i1=2:=by have:=of_decide_eq_false hc3;omega
        replace hR:=zbp hR (Nat.lt_irrefl _)
        refine rg ⟨by (intros;omega),trivial⟩ ?_
        revert hR;refine lN (fun i v=>True) zai rfl fun i2 v2 F2 hn2 hI2 hR hK2=>?_
        refine rg trivial ?_
        refine ⟨fun hc5=>?_,fun hc5=>?_⟩
        · have hii2:i2<x1.toNat - 0:=by have:=of_decide_eq_true hc5;omega
          replace hR:=zbj hR hii2
          refine rg ⟨by (intros;omega),trivial⟩ ?_
          revert hR;refine cd (fun hc6 hR=>?_) fun hc6 hR=>?_
          ·
            refine rg trivial ?_
            exact congrArg C80 hR
          ·
            refine rg ⟨by ( intros;simp only [inR];omega),trivial⟩ ?_
            exact hK2 () hii2 zai hR
        · obtain rfl:i2=x1.toNat - 0:=by have:=of_decide_eq_false hc5;omega
          replace hR:=zbp hR (Nat.lt_irrefl _)
          refine rg trivial ?_
          exact congrArg C80 hR
 exact Fn.go 150 Tryz.func80 zah zah (by simp [C80,Frs,FrsL]) (A80 x0 x1) zah (aux _ rfl)
def k80 (x0:Family) (x1:Int):Cl:=(hres (C80 (zft x0 x1)),k3 (zk1 x0 x1))
end Go.Proofs.YtaageiiodlfeiaaGreat
