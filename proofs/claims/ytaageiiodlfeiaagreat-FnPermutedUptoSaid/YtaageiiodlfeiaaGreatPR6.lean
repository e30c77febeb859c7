import Derived.Test.YtaageiiodlfeiaaGreatRN1
set_option maxHeartbeats 4000000
set_option linter.unusedSimpArgs false
set_option linter.unusedVariables false
namespace Go.Proofs.YtaageiiodlfeiaaGreat
open Go Go.Lite Go.Proofs
def C112 (R:Bool):LV×List (Nat×BC):=(.bool R,[])
def zcw (x0:Family) (x1:Int) (x2:Int):Bool:=((((!decide (x1=x2))&&(decide (0≤((x0.people.getD x1.toNat default).father))))&&(decide (0≤((x0.people.getD x1.toNat default).mother))))&&(decide (((x0.people.getD x1.toNat default).father)=((x0.people.getD x2.toNat default).father))))&&(decide (((x0.people.getD x1.toNat default).mother)=((x0.people.getD x2.toNat default).mother)))
def A112 (x0:Family) (x1:Int) (x2:Int):Ann:=.reg 3 [] [] [6] [] [!decide (x1=x2),(!decide (x1=x2))&&(decide (0≤((x0.people.getD x1.toNat default).father))),((!decide (x1=x2))&&(decide (0≤((x0.people.getD x1.toNat default).father))))&&(decide (0≤((x0.people.getD x1.toNat default).mother))),(((!decide (x1=x2))&&(decide (0≤((x0.people.getD x1.toNat default).father))))&&(decide (0≤((x0.people.getD x1.toNat default).mother))))&&(decide (((x0.people.getD x1.toNat default).father)=((x0.people.getD x2.toNat default).father)))] [pf (0≤(x1:Int)∧(x1:Int)<((x0.people.length:Nat):Int)),pf (0≤(x2:Int)∧(x2:Int)<((x0.people.length:Nat):Int))] [] [0,4,1,1,1,5,5,5,9,9,9,9,9,13,13,13,13,13] (rt [] (C112 (((((!decide (x1=x2))&&(decide (0≤((x0.people.getD x1.toNat default).father))))&&(decide (0≤((x0.people.getD x1.toNat default).mother))))&&(decide (((x0.people.getD x1.toNat default).father)=((x0.people.getD x2.toNat default).father))))&&(decide (((x0.people.getD x1.toNat default).mother)=((x0.people.getD x2.toNat default).mother))))))
theorem znq (x0:Family) (x1:Int) (x2:Int) (hx:x0.people.length≤1048576) (ha:0≤x1∧x1<x0.people.length) (hb:0≤x2∧x2<x0.people.length):FnT Tryz.prog 112 [.agg (zbx false x0),.int .i64 x1,.int .i64 x2] (C112 (zcw x0 x1 x2)):=by
 have aux:∀ R,zcw x0 x1 x2=R→slim (C112 R) (A112 x0 x1 x2) []:=by
  intro R hR
  refine rg ⟨by trivial,by trivial,trivial⟩ ?_
  exact congrArg C112 hR
 exact Fn.go 46 Tryz.func112 zah zah (by simp [C112,Frs,FrsL]) (A112 x0 x1 x2) zah (aux _ rfl)
def k112 (x0:Family) (x1:Int) (x2:Int):Cl:=(hres (C112 (zcw x0 x1 x2)),k3 (znq x0 x1 x2))
structure Relation where
 size:Int
 rows:List (List Int)
 deriving Inhabited
def zdh (fr:Bool) (x:Relation):List LV:=cInt .i64 x.size++cSl fr 1 (cSl fr 1 (cInt .i64)) x.rows

def C133 (R:Bool):LV×List (Nat×BC):=(.bool R,[])
def zdf (x0:Relation):Bool:=bif (((decide (x0.size<0))||(decide (40<x0.size)))||(!decide (((x0.rows.length:Nat):Int)=x0.size))) then false else (loopN (fun i1 (v1:Unit) nx1=>loopN (fun i2 (v2:Unit) next=>bif (((decide (((x0.rows.getD i1 default).getD i2 default)<0))||(decide (x0.size≤((x0.rows.getD i1 default).getD i2 default))))||((decide (0<((i2:Nat):Int)))&&(decide (((x0.rows.getD i1 default).getD i2 default)≤((x0.rows.getD i1 default).getD ((((i2:Nat):Int) - 1).toNat) default))))) then false else (next ())) (fun (v2:Unit)=>nx1 ()) ((x0.rows.getD i1 default).length) 0 ()) (fun (v1:Unit)=>true) x0.rows.length 0 ())
def zyq (x0:Relation) (i1:Nat) (v1:Unit):Dl:=⟨[(26,.int .i64 ((i1:Nat):Int))],[]⟩
def zyp (x0:Relation) (i1:Nat) (v1:Unit) (i2:Nat) (v2:Unit):Dl:=⟨[(32,.int .i64 ((i2:Nat):Int))],[]⟩
def A133b2 (x0:Relation) (i1:Nat) (v1:Unit) (i2:Nat) (v2:Unit):Ann:=r0 1 [1,2,4,24,25,26,30,31,32,33] [1] (cn (decide (((i2:Nat):Int)<(((x0.rows.getD i1 default).length:Nat):Int))) (.reg 2 [] [] [1,2,4,24,25,26,30,31,32,57] [1] [!(decide (((x0.rows.getD i1 default).getD i2 default)<0)),decide (((x0.rows.getD i1 default).getD i2 default)<0),!((decide (((x0.rows.getD i1 default).getD i2 default)<0))||(decide (x0.size≤((x0.rows.getD i1 default).getD i2 default)))),(!((decide (((x0.rows.getD i1 default).getD i2 default)<0))||(decide (x0.size≤((x0.rows.getD i1 default).getD i2 default)))))&&(decide (0<((i2:Nat):Int))),(decide (((x0.rows.getD i1 default).getD i2 default)<0))||(decide (x0.size≤((x0.rows.getD i1 default).getD i2 default)))] [pf (0≤(((i2:Nat):Int):Int)∧(((i2:Nat):Int):Int)<(((x0.rows.getD i1 default).length:Nat):Int)),gt ((!((decide (((x0.rows.getD i1 default).getD i2 default)<0))||(decide (x0.size≤((x0.rows.getD i1 default).getD i2 default)))))&&(decide (0<((i2:Nat):Int)))) (pf (inR .i64 (((i2:Nat):Int) - 1))),gt ((!((decide (((x0.rows.getD i1 default).getD i2 default)<0))||(decide (x0.size≤((x0.rows.getD i1 default).getD i2 default)))))&&(decide (0<((i2:Nat):Int)))) (pf (0≤(((i2:Nat):Int) - 1:Int)∧(((i2:Nat):Int) - 1:Int)<(((x0.rows.getD i1 default).length:Nat):Int))),gt (!((decide (((x0.rows.getD i1 default).getD i2 default)<0))||(decide (x0.size≤((x0.rows.getD i1 default).getD i2 default))))) (gt (decide (0<((i2:Nat):Int))) (pf (((!((decide (((x0.rows.getD i1 default).getD i2 default)<0))||(decide (x0.size≤((x0.rows.getD i1 default).getD i2 default)))))&&(decide (0<((i2:Nat):Int))))=true)))] [] [0,1,1,1,6,9,9,13,4,13,13,8,13,13,13,9,12,18] (cn (((decide (((x0.rows.getD i1 default).getD i2 default)<0))||(decide (x0.size≤((x0.rows.getD i1 default).getD i2 default))))||((decide (0<((i2:Nat):Int)))&&(decide (((x0.rows.getD i1 default).getD i2 default)≤((x0.rows.getD i1 default).getD ((((i2:Nat):Int) - 1).toNat) default))))) (r0 1 [1,2,4,24,25,26,30,31,32] [1] (rt [] (C133 false))) (r1 1 [1,2,4,24,25,26,30,31,32] [1] [pf (inR .i64 (((i2:Nat):Int)+1))] [0] (.next 0 [] (zyp x0 i1 v1 (i2+1) ()))))) (r1 1 [1,2,24,25,26] [1] [pf (inR .i64 (((i1:Nat):Int)+1))] [0] (.next 1 [] (zyq x0 (i1+1) ()))))
def A133b1 (x0:Relation) (i1:Nat) (v1:Unit):Ann:=r0 1 [1,2,24,25,26,27] [1] (cn (decide (((i1:Nat):Int)<((x0.rows.length:Nat):Int))) (r1 2 [1,2,4,24,25,26,30,31,32] [1] [pf (0≤(((i1:Nat):Int):Int)∧(((i1:Nat):Int):Int)<((x0.rows.length:Nat):Int))] [0] (lp (zyp x0 i1 v1) [] [] [] (zyp x0 i1 v1 0 ()) (A133b2 x0 i1 v1))) (r0 1 [2] [] (rt [] (C133 true))))
def A133 (x0:Relation):Ann:=r0 1 [1,2] [1] (.reg 1 [] [] [1,2,22] [1] [!(decide (x0.size<0)),decide (x0.size<0),!((decide (x0.size<0))||(decide (40<x0.size))),(decide (x0.size<0))||(decide (40<x0.size))] [] [] [1,1,6,9,9,9,9,9,14] (cn (((decide (x0.size<0))||(decide (40<x0.size)))||(!decide (((x0.rows.length:Nat):Int)=x0.size))) (r0 1 [1,2] [1] (rt [] (C133 false))) (r0 1 [1,2,24,25,26] [1] (lp (zyq x0) [] [] [] (zyq x0 0 ()) (A133b1 x0)))))
theorem zj3 (x0:Relation) (hx:x0.rows.length≤1048576∧∀ y∈x0.rows,y.length≤1048576):FnT Tryz.prog 133 [.agg (zdh false x0)] (C133 (zdf x0)):=by
 have aux:∀ R,zdf x0=R→slim (C133 R) (A133 x0) []:=by
  intro R hR
  refine rg trivial ?_
  refine rg trivial ?_
  revert hR;refine cd (fun hc1 hR=>?_) fun hc1 hR=>?_
  ·
    refine rg trivial ?_
    exact congrArg C133 hR
  ·
    refine rg trivial ?_
    revert hR;refine lN (fun i v=>True) zai rfl fun i1 v1 F1 hn1 hI1 hR hK1=>?_
    refine rg trivial ?_
    refine ⟨fun hc2=>?_,fun hc2=>?_⟩
    · have hii1:i1<x0.rows.length:=by have:=of_decide_eq_true hc2;omega
      replace hR:=zbj hR hii1
      refine rg ⟨by (intros;omega),trivial⟩ ?_
      revert hR;refine lN (fun i v=>True) zai rfl fun i2 v2 F2 hn2 hI2 hR hK2=>?_
      refine rg trivial ?_
      refine ⟨fun hc3=>?_,fun hc3=>?_⟩
      · have hii2:i2<(x0.rows.getD i1 default).length:=by have:=of_decide_eq_true hc3;omega
        replace hR:=zbj hR hii2
        refine rg ⟨by (intros;omega),by ((try clear hR hK1 hK2);intros;(try simp only [decide_eq_true_eq,decide_eq_false_iff_not,Bool.or_eq_true,Bool.and_eq_true,zbd,za9,zba,Bool.not_eq_true',inR] at *);(repeat' apply And.intro)<;>(first | (intros;omega) | (have h9:=hx.2 _ (zb0 (d:=default) hii1);omega))),by ((try clear hR hK1 hK2);intros;(try simp only [decide_eq_true_eq,decide_eq_false_iff_not,Bool.or_eq_true,Bool.and_eq_true,zbd,za9,zba,Bool.not_eq_true',inR] at *);(repeat' apply And.intro)<;>(intros;omega)),by ((try clear hR hK1 hK2);intros;(try simp only [decide_eq_true_eq,decide_eq_false_iff_not,Bool.or_eq_true,Bool.and_eq_true,zbd,za9,zba,Bool.not_eq_true',inR] at *);(repeat' apply And.intro)<;>(intros;omega)),trivial⟩ ?_
        revert hR;refine cd (fun hc4 hR=>?_) fun hc4 hR=>?_
        ·
          refine rg trivial ?_
          exact congrArg C133 hR
        ·
          refine rg ⟨by ((try clear hR hK1 hK2);intros;(try simp only [decide_eq_true_eq,decide_eq_false_iff_not,Bool.or_eq_true,Bool.and_eq_true,zbd,za9,zba,Bool.not_eq_true',inR] at *);(repeat' apply And.intro)<;>(first | (intros;omega) | (have h9:=hx.2 _ (zb0 (d:=default) hii1);omega))),trivial⟩ ?_
          exact hK2 () hii2 zai hR
      · obtain rfl:i2=(x0.rows.getD i1 default).length:=by have:=of_decide_eq_false hc3;omega
        replace hR:=zbp hR (Nat.lt_irrefl _)
        refine rg ⟨by ( intros;simp only [inR];omega),trivial⟩ ?_
        exact hK1 () hii1 zai hR
    · obtain rfl:i1=x0.rows.length:=by have:=of_decide_eq_false hc2;omega
      replace hR:=zbp hR (Nat.lt_irrefl _)
      refine rg trivial ?_
      exact congrArg C133 hR
 exact Fn.go 60 Tryz.func133 zah zah (by simp [C133,Frs,FrsL]) (A133 x0) zah (aux _ rfl)
def k133 (x0:Relation):Cl:=(hres (C133 (zdf x0)),k1 (zj3 x0))
def C108 (R:Bool):LV×List (Nat×BC):=(.bool R,[])
def zlg (x0:Relation) (x1:Relation):Bool:=((zdf x0)&&(zdf x1))&&(decide (x0.size=x1.size))
def A108 (x0:Relation) (x1:Relation):Ann:=.reg 2 [] [(1001,k133 x0),(1004,cg (zdf x0) (k133 x1))] [4] [] [zdf x0,(zdf x0)&&(zdf x1)] [] [] [0,1,4,1,5,5,5,5,5] (rt [] (C108 (((zdf x0)&&(zdf x1))&&(decide (x0.size=x1.size)))))
theorem zt4 (x0:Relation) (x1:Relation) (hx:x0.rows.length≤1048576∧∀ y∈x0.rows,y.length≤1048576) (hy:x1.rows.length≤1048576∧∀ y∈x1.rows,y.length≤1048576):FnT Tryz.prog 108 [.agg (zdh false x0),.agg (zdh false x1)] (C108 (zlg x0 x1)):=by
 have aux:∀ R,zlg x0 x1=R→slim (C108 R) (A108 x0 x1) []:=by
  intro R hR
  refine rg ⟨by trivial,fun hg0=>by trivial,trivial⟩ ?_
  exact congrArg C108 hR
 exact Fn.go 18 Tryz.func108 zah zah (by simp [C108,Frs,FrsL]) (A108 x0 x1) zah (aux _ rfl)
def k108 (x0:Relation) (x1:Relation):Cl:=(hres (C108 (zlg x0 x1)),k2 (zt4 x0 x1))
def C110 (R:Bool):LV×List (Nat×BC):=(.bool R,[])
def zob (x0:List Int) (x1:Int):Bool:=loopN (fun i1 (v1:Unit) next=>bif (decide ((x0.getD i1 default)=x1)) then true else (next ())) (fun (v1:Unit)=>false) x0.length 0 ()
def zys (x0:List Int) (x1:Int) (i1:Nat) (v1:Unit):Dl:=⟨[(9,.int .i64 ((i1:Nat):Int))],[]⟩
def A110b1 (x0:List Int) (x1:Int) (i1:Nat) (v1:Unit):Ann:=r0 1 [1,4,7,8,9,10] [] (cn (decide (((i1:Nat):Int)<((x0.length:Nat):Int))) (r1 2 [1,4,7,8,9,15] [] [pf (0≤(((i1:Nat):Int):Int)∧(((i1:Nat):Int):Int)<((x0.length:Nat):Int))] [0] (cn (decide ((x0.getD i1 default)=x1)) (r0 1 [1,4,7,8,9] [] (rt [] (C110 true))) (r1 1 [1,4,7,8,9] [] [pf (inR .i64 (((i1:Nat):Int)+1))] [0] (.next 0 [] (zys x0 x1 (i1+1) ()))))) (r0 1 [4] [] (rt [] (C110 false))))
def A110 (x0:List Int) (x1:Int):Ann:=r0 1 [0,1,4] [] (r0 1 [1,4,7,8,9] [] (lp (zys x0 x1) [] [] [] (zys x0 x1 0 ()) (A110b1 x0 x1)))
theorem zo6 (x0:List Int) (x1:Int) (hx:x0.length≤1048576):FnT Tryz.prog 110 [.ro false 1 x0.length (rowOf (cInt .i64) x0),.int .i64 x1] (C110 (zob x0 x1)):=by
 have aux:∀ R,zob x0 x1=R→slim (C110 R) (A110 x0 x1) []:=by
  intro R hR
  refine rg trivial ?_
  refine rg trivial ?_
  revert hR;refine lN (fun i v=>True) zai rfl fun i1 v1 F1 hn1 hI1 hR hK1=>?_
  refine rg trivial ?_
  refine ⟨fun hc1=>?_,fun hc1=>?_⟩
  ·have hii1:i1<x0.length:=by have:=of_decide_eq_true hc1;omega
   replace hR:=zbj hR hii1
   refine rg ⟨by (intros;omega),trivial⟩ ?_
   revert hR;refine cd (fun hc2 hR=>?_) fun hc2 hR=>?_
   ·
     refine rg trivial ?_
     exact congrArg C110 hR
   ·
     refine rg ⟨by ( intros;simp only [inR];omega),trivial⟩ ?_
     exact hK1 () hii1 zai hR
  ·obtain rfl:i1=x0.length:=by have:=of_decide_eq_false hc1;omega
   replace hR:=zbp hR (Nat.lt_irrefl _)
   refine rg trivial ?_
   exact congrArg C110 hR
 exact Fn.go 17 Tryz.func110 zah zah (by simp [C110,Frs,FrsL]) (A110 x0 x1) zah (aux _ rfl)
def k110 (x0:List Int) (x1:Int):Cl:=(hres (C110 (zob x0 x1)),k1 (zo6 x0 x1))
def C63 (R:Bool):LV×List (Nat×BC):=(.bool R,[])
def zgd (x0:Int) (x1:Int) (x2:KinType) (x3:Family):Bool:=(decide (x0=x1))&&((decide (x2.ego=0))||(decide (((x3.people.getD x0.toNat default).sex)=x2.ego)))
def A63 (x0:Int) (x1:Int) (x2:KinType) (x3:Family):Ann:=.reg 2 [] [] [6] [] [decide (x0=x1),(decide (x0=x1))&&(!(decide (x2.ego=0)))] [gt ((decide (x0=x1))&&(!(decide (x2.ego=0)))) (pf (0≤(x0:Int)∧(x0:Int)<((x3.people.length:Nat):Int))),gt (decide (x0=x1)) (gf (decide (x2.ego=0)) (pf (((decide (x0=x1))&&(!(decide (x2.ego=0))))=true)))] [] [1,1,1,5,5,5,0,5,5,5,5,5,1,4,1] (rt [] (C63 ((decide (x0=x1))&&((decide (x2.ego=0))||(decide (((x3.people.getD x0.toNat default).sex)=x2.ego))))))
theorem zh3 (x0:Int) (x1:Int) (x2:KinType) (x3:Family) (h:0≤x0∧x0<x3.people.length) (hx:x3.people.length≤1048576):FnT Tryz.prog 63 [.int .i64 x0,.int .i64 x1,.ep [.int .i64 x2.ego,.ro false 2 x2.steps.length (rowOf (cStep false) x2.steps)] 0,.ep [.ro false 6 x3.people.length (rowOf (zbq false) x3.people),.ro false 4 x3.unions.length (rowOf (zb4 false) x3.unions)] 0] (C63 (zgd x0 x1 x2 x3)):=by
 have aux:∀ R,zgd x0 x1 x2 x3=R→slim (C63 R) (A63 x0 x1 x2 x3) []:=by
  intro R hR
  refine rg ⟨by (intros;omega),by ((try clear hR);intros;(try simp only [decide_eq_true_eq,decide_eq_false_iff_not,Bool.or_eq_true,Bool.and_eq_true,zbd,za9,zba,Bool.not_eq_true',inR] at *);(repeat' apply And.intro)<;>(intros;omega)),trivial⟩ ?_
  exact congrArg C63 hR
 exact Fn.go 26 Tryz.func63 zah zah (by simp [C63,Frs,FrsL]) (A63 x0 x1 x2 x3) zah (aux _ rfl)
def k63 (x0:Int) (x1:Int) (x2:KinType) (x3:Family):Cl:=(hres (C63 (zgd x0 x1 x2 x3)),k2 (zh3 x0 x1 x2 x3))
def C109 (R:Bool):LV×List (Nat×BC):=(.bool R,[])
def zeg (x0:Int) (x1:Int) (x2:Relation) (x3:Relation):Bool:=loopN (fun i1 (v1:Unit) next=>bif (zob (x3.rows.getD (((x2.rows.getD x0.toNat default).getD i1 default).toNat) default) x1) then true else (next ())) (fun (v1:Unit)=>false) ((x2.rows.getD x0.toNat default).length) 0 ()
def zyt (x0:Int) (x1:Int) (x2:Relation) (x3:Relation) (i1:Nat) (v1:Unit):Dl:=⟨[(15,.int .i64 ((i1:Nat):Int))],[]⟩
def A109b1 (x0:Int) (x1:Int) (x2:Relation) (x3:Relation) (i1:Nat) (v1:Unit):Ann:=r0 1 [1,3,6,13,14,15,16] [] (cn (decide (((i1:Nat):Int)<(((x2.rows.getD x0.toNat default).length:Nat):Int))) (.reg 2 [] [(1006,k110 (x3.rows.getD (((x2.rows.getD x0.toNat default).getD i1 default).toNat) default) x1)] [1,3,6,13,14,15,25] [] [] [pf (0≤(((i1:Nat):Int):Int)∧(((i1:Nat):Int):Int)<(((x2.rows.getD x0.toNat default).length:Nat):Int)),pf (0≤(((x2.rows.getD x0.toNat default).getD i1 default):Int)∧(((x2.rows.getD x0.toNat default).getD i1 default):Int)<((x3.rows.length:Nat):Int))] [] [0,4,8] (cn (zob (x3.rows.getD (((x2.rows.getD x0.toNat default).getD i1 default).toNat) default) x1) (r0 1 [1,3,6,13,14,15] [] (rt [] (C109 true))) (r1 1 [1,3,6,13,14,15] [] [pf (inR .i64 (((i1:Nat):Int)+1))] [0] (.next 0 [] (zyt x0 x1 x2 x3 (i1+1) ()))))) (r0 1 [6] [] (rt [] (C109 false))))
def A109 (x0:Int) (x1:Int) (x2:Relation) (x3:Relation):Ann:=r0 1 [0,1,2,3,6] [] (r1 1 [1,3,6,13,14,15] [] [pf (0≤(x0:Int)∧(x0:Int)<((x2.rows.length:Nat):Int))] [0] (lp (zyt x0 x1 x2 x3) [] [] [] (zyt x0 x1 x2 x3 0 ()) (A109b1 x0 x1 x2 x3)))
theorem zgm (x0:Int) (x1:Int) (x2:Relation) (x3:Relation) (h:0≤x0∧x0<x2.rows.length) (hr:∀ y∈x2.rows,y.length≤1048576∧∀ b∈y,0≤b∧b<x3.rows.length) (hs:∀ y∈x3.rows,y.length≤1048576):FnT Tryz.prog 109 [.int .i64 x0,.int .i64 x1,.ep [.int .i64 x2.size,.ro false 1 x2.rows.length (rowOf (cSl false 1 (cInt .i64)) x2.rows)] 0,.ep [.int .i64 x3.size,.ro false 1 x3.rows.length (rowOf (cSl false 1 (cInt .i64)) x3.rows)] 0] (C109 (zeg x0 x1 x2 x3)):=by
 have aux:∀ R,zeg x0 x1 x2 x3=R→slim (C109 R) (A109 x0 x1 x2 x3) []:=by
  intro R hR
  refine rg trivial ?_
  refine rg ⟨by trivial,trivial⟩ ?_
  revert hR;refine lN (fun i v=>True) zai rfl fun i1 v1 F1 hn1 hI1 hR hK1=>?_
  refine rg trivial ?_
  refine ⟨fun hc1=>?_,fun hc1=>?_⟩
  ·have hii1:i1<(x2.rows.getD x0.toNat default).length:=by have:=of_decide_eq_true hc1;omega
   replace hR:=zbj hR hii1
   refine rg ⟨by (intros;omega),by (have h9:=(hr _ (zb0 (d:=default) (l:=x2.rows) (k:=x0.toNat) om)).2 _ (zb0 (d:=default) hii1);omega),by (have h9:=(hr _ (zb0 (d:=default) (l:=x2.rows) (k:=x0.toNat) om)).2 _ (zb0 (d:=default) hii1);exact hs _ (zb0 (d:=default) om)),trivial⟩ ?_
   revert hR;refine cd (fun hc2 hR=>?_) fun hc2 hR=>?_
   ·
     refine rg trivial ?_
     exact congrArg C109 hR
   ·
     refine rg ⟨by ((try clear hR hK1);intros;(try simp only [decide_eq_true_eq,decide_eq_false_iff_not,Bool.or_eq_true,Bool.and_eq_true,zbd,za9,zba,Bool.not_eq_true',inR] at *);(repeat' apply And.intro)<;>(first | (intros;omega) | (have h9:=hr _ (zb0 (d:=default) (l:=x2.rows) (k:=x0.toNat) om);omega))),trivial⟩ ?_
     exact hK1 () hii1 zai hR
  ·obtain rfl:i1=(x2.rows.getD x0.toNat default).length:=by have:=of_decide_eq_false hc1;omega
   replace hR:=zbp hR (Nat.lt_irrefl _)
   refine rg trivial ?_
   exact congrArg C109 hR
 exact Fn.go 27 Tryz.func109 zah zah (by simp [C109,Frs,FrsL]) (A109 x0 x1 x2 x3) zah (aux _ rfl)
def k109 (x0:Int) (x1:Int) (x2:Relation) (x3:Relation):Cl:=(hres (C109 (zeg x0 x1 x2 x3)),k3 (zgm x0 x1 x2 x3))
def C62F (R:Relation):LV×List (Nat×BC):=(.agg [.int .i64 R.size,.own 0],[(0,.nest true 1 R.rows.length (nrOf (cInt .i64) R.rows))])
def zf2 (x0:Int) (x1:KinType×Family):Relation:=loopN (fun i1 (v1:(List (List Int))) nx1=>loopN (fun i2 (v2:(List Int)) next=>bif (zgd ((i1:Nat):Int) ((i2:Nat):Int) x1.1 x1.2) then (next (v2++[((i2:Nat):Int)])) else (next v2)) (fun (v2:(List Int))=>nx1 (v1++[v2])) x0.toNat 0 ([]:List Int)) (fun (v1:(List (List Int)))=>(Relation.mk x0 v1)) x0.toNat 0 ([]:List (List Int))
def zyn (x0:Int) (x1:KinType×Family) (i1:Nat) (v1:(List (List Int))):Dl:=⟨[(12,.int .i64 ((i1:Nat):Int))],[(30501,.nest true 1 v1.length (nrOf (cInt .i64) v1)),(5,.var [.int .i64 x0,.own 30501])]⟩
def zvt (x0:Int) (x1:KinType×Family) (i1:Nat) (v1:(List (List Int))) (i2:Nat) (v2:(List Int)):Dl:=⟨[(16,.int .i64 ((i2:Nat):Int)),(7,.own 20007)],[(20007,.arr 1 v2.length (rowOf (cInt .i64) v2))]⟩
def A62Fb2 (x0:Int) (x1:KinType×Family) (i1:Nat) (v1:(List (List Int))) (i2:Nat) (v2:(List Int)):Ann:=r0 1 [0,1,4,5,6,7,11,12,15,16,17] [4,5,20007,30501] (cn (decide (((i2:Nat):Int)<x0)) (.reg 2 [] [(1003,k63 ((i1:Nat):Int) ((i2:Nat):Int) x1.1 x1.2)] [0,1,4,5,6,7,8,11,12,15,16,22] [4,5,20007,30501] [] [] [] [0] (cn (zgd ((i1:Nat):Int) ((i2:Nat):Int) x1.1 x1.2) (.reg 1 [] [(2,bsC 25 (cInt .i64) ([((i2:Nat):Int)]:List Int)),(3,ap1 26 (cInt .i64) 8 v2 ((i2:Nat):Int))] [0,1,4,5,6,7,11,12,15,16] [4,5,26,30501] [] [] [] [0,4] (r1 1 [0,1,4,5,6,7,11,12,15,16] [4,5,26,30501] [pf (inR .i64 (((i2:Nat):Int)+1))] [0] (.next 0 [(20007,some 26)] (zvt x0 x1 i1 v1 (i2+1) (v2++[((i2:Nat):Int)]))))) (r1 1 [0,1,4,5,6,7,11,12,15,16] [4,5,20007,30501] [pf (inR .i64 (((i2:Nat):Int)+1))] [0] (.next 0 [(20007,some 20007)] (zvt x0 x1 i1 v1 (i2+1) v2))))) (.reg 1 [] [(3,nB1 (cInt .i64) v2),(4,nA1 (cInt .i64) v1 v2 24)] [0,1,4,5,11,12] [4,5,32] [] [] [] [0,4] (r1 1 [0,1,4,5,11,12] [4,5,32] [pf (inR .i64 (((i1:Nat):Int)+1))] [0] (.next 1 [(30501,some 32)] (zyn x0 x1 (i1+1) (v1++[v2]))))))
def A62Fb1 (x0:Int) (x1:KinType×Family) (i1:Nat) (v1:(List (List Int))):Ann:=r0 1 [0,1,4,5,11,12,13] [4,5,30501] (cn (decide (((i1:Nat):Int)<x0)) (r0 2 [0,1,4,5,6,7,11,12] [4,5,30501] (r0 1 [0,1,4,5,6,7,11,12,15,16] [4,5,30501] (lp (zvt x0 x1 i1 v1) [] [] [(20007,none)] (zvt x0 x1 i1 v1 0 ([]:List Int)) (A62Fb2 x0 x1 i1 v1)))) (r0 1 [4] [4,30501] (rt [(0,some 30501)] (C62F (Relation.mk x0 v1)))))
def A62F (x0:Int) (x1:KinType×Family):Ann:=r0 2 [0,1,4,5] [4,5] (r0 1 [0,1,4,5,11,12] [4,5] (lp (zyn x0 x1) [] [] [(30501,none)] (zyn x0 x1 0 ([]:List (List Int))) (A62Fb1 x0 x1)))
theorem zk3 (x0:Int) (x1:KinType×Family) (hn:0≤x0∧x0≤x1.2.people.length) (hx:x1.2.people.length≤1048576):FnT Tryz.prog 62 [.int .i64 x0,.clo 63 [.ep [.int .i64 x1.1.ego,.ro false 2 x1.1.steps.length (rowOf (cStep false) x1.1.steps)] 0,.ep [.ro false 6 x1.2.people.length (rowOf (zbq false) x1.2.people),.ro false 4 x1.2.unions.length (rowOf (zb4 false) x1.2.unions)] 0]] (C62F (zf2 x0 x1)):=by
 have aux:∀ R,zf2 x0 x1=R→slim (C62F R) (A62F x0 x1) []:=by
  intro R hR
  refine rg trivial ?_
  refine rg trivial ?_
  revert hR;refine lN (fun i v=>(v:List (List Int)).length=i) zai rfl fun i1 v1 F1 hn1 hI1 hR hK1=>?_
  refine rg trivial ?_
  refine ⟨fun hc1=>?_,fun hc1=>?_⟩
  ·have hii1:i1<x0.toNat:=by have:=of_decide_eq_true hc1;omega
   replace hR:=zbj hR hii1
   refine rg trivial ?_
   refine rg trivial ?_
   revert hR;refine lN (fun i v=>(v:List Int).length≤i) zai rfl fun i2 v2 F2 hn2 hI2 hR hK2=>?_
   refine rg trivial ?_
   refine ⟨fun hc2=>?_,fun hc2=>?_⟩
   ·have hii2:i2<x0.toNat:=by have:=of_decide_eq_true hc2;omega
    replace hR:=zbj hR hii2
    refine rg ⟨⟨by (intros;omega),by trivial⟩,trivial⟩ ?_
    revert hR;refine cd (fun hc3 hR=>?_) fun hc3 hR=>?_
    ·
      refine rg ⟨trivial,om,trivial⟩ ?_
      refine rg ⟨by ( intros;simp only [inR];omega),trivial⟩ ?_
      exact hK2 (v2++[((i2:Nat):Int)]) hii2 zac hR
    ·
      refine rg ⟨by ( intros;simp only [inR];omega),trivial⟩ ?_
      exact hK2 v2 hii2 za2 hR
   ·obtain rfl:i2=x0.toNat:=by have:=of_decide_eq_false hc2;omega
    replace hR:=zbp hR (Nat.lt_irrefl _)
    refine rg ⟨trivial,om,trivial⟩ ?_
    refine rg ⟨by ( intros;simp only [inR];omega),trivial⟩ ?_
    exact hK1 (v1++[v2]) hii1 zac hR
  ·obtain rfl:i1=x0.toNat:=by have:=of_decide_eq_false hc1;omega
   replace hR:=zbp hR (Nat.lt_irrefl _)
   refine rg trivial ?_
   exact congrArg C62F hR
 exact Fn.go 36 Tryz.func62 zah zah (by simp [C62F,FrsN,nrOf,Frs,FrsL,FrsB,rowOf,cInt,cBool,cStr,cSl,zce,zbq,zb4,zbx,cDyad,cLaw,zd4,cStep,zdv,zdh]) (A62F x0 x1) zah (aux _ rfl)
def k62F (x0:Int) (x1:KinType×Family):Cl:=(hres (C62F (zf2 x0 x1)),k2 (zk3 x0 x1))
def C62C (R:Relation):LV×List (Nat×BC):=(.agg [.int .i64 R.size,.own 0],[(0,.nest true 1 R.rows.length (nrOf (cInt .i64) R.rows))])
def zim (x0:Int) (x1:Relation×Relation):Relation:=loopN (fun i1 (v1:(List (List Int))) nx1=>loopN (fun i2 (v2:(List Int)) next=>bif (zeg ((i1:Nat):Int) ((i2:Nat):Int) x1.1 x1.2) then (next (v2++[((i2:Nat):Int)])) else (next v2)) (fun (v2:(List Int))=>nx1 (v1++[v2])) x0.toNat 0 ([]:List Int)) (fun (v1:(List (List Int)))=>(Relation.mk x0 v1)) x0.toNat 0 ([]:List (List Int))
def zyo (x0:Int) (x1:Relation×Relation) (i1:Nat) (v1:(List (List Int))):Dl:=⟨[(12,.int .i64 ((i1:Nat):Int))],[(30501,.nest true 1 v1.length (nrOf (cInt .i64) v1)),(5,.var [.int .i64 x0,.own 30501])]⟩
def zvu (x0:Int) (x1:Relation×Relation) (i1:Nat) (v1:(List (List Int))) (i2:Nat) (v2:(List Int)):Dl:=⟨[(16,.int .i64 ((i2:Nat):Int)),(7,.own 20007)],[(20007,.arr 1 v2.length (rowOf (cInt .i64) v2))]⟩
def A62Cb2 (x0:Int) (x1:Relation×Relation) (i1:Nat) (v1:(List (List Int))) (i2:Nat) (v2:(List Int)):Ann:=r0 1 [0,1,4,5,6,7,11,12,15,16,17] [4,5,20007,30501] (cn (decide (((i2:Nat):Int)<x0)) (.reg 2 [] [(1003,k109 ((i1:Nat):Int) ((i2:Nat):Int) x1.1 x1.2)] [0,1,4,5,6,7,8,11,12,15,16,22] [4,5,20007,30501] [] [] [] [0] (cn (zeg ((i1:Nat):Int) ((i2:Nat):Int) x1.1 x1.2) (.reg 1 [] [(2,bsC 25 (cInt .i64) ([((i2:Nat):Int)]:List Int)),(3,ap1 26 (cInt .i64) 8 v2 ((i2:Nat):Int))] [0,1,4,5,6,7,11,12,15,16] [4,5,26,30501] [] [] [] [0,4] (r1 1 [0,1,4,5,6,7,11,12,15,16] [4,5,26,30501] [pf (inR .i64 (((i2:Nat):Int)+1))] [0] (.next 0 [(20007,some 26)] (zvu x0 x1 i1 v1 (i2+1) (v2++[((i2:Nat):Int)]))))) (r1 1 [0,1,4,5,6,7,11,12,15,16] [4,5,20007,30501] [pf (inR .i64 (((i2:Nat):Int)+1))] [0] (.next 0 [(20007,some 20007)] (zvu x0 x1 i1 v1 (i2+1) v2))))) (.reg 1 [] [(3,nB1 (cInt .i64) v2),(4,nA1 (cInt .i64) v1 v2 24)] [0,1,4,5,11,12] [4,5,32] [] [] [] [0,4] (r1 1 [0,1,4,5,11,12] [4,5,32] [pf (inR .i64 (((i1:Nat):Int)+1))] [0] (.next 1 [(30501,some 32)] (zyo x0 x1 (i1+1) (v1++[v2]))))))
def A62Cb1 (x0:Int) (x1:Relation×Relation) (i1:Nat) (v1:(List (List Int))):Ann:=r0 1 [0,1,4,5,11,12,13] [4,5,30501] (cn (decide (((i1:Nat):Int)<x0)) (r0 2 [0,1,4,5,6,7,11,12] [4,5,30501] (r0 1 [0,1,4,5,6,7,11,12,15,16] [4,5,30501] (lp (zvu x0 x1 i1 v1) [] [] [(20007,none)] (zvu x0 x1 i1 v1 0 ([]:List Int)) (A62Cb2 x0 x1 i1 v1)))) (r0 1 [4] [4,30501] (rt [(0,some 30501)] (C62C (Relation.mk x0 v1)))))
def A62C (x0:Int) (x1:Relation×Relation):Ann:=r0 2 [0,1,4,5] [4,5] (r0 1 [0,1,4,5,11,12] [4,5] (lp (zyo x0 x1) [] [] [(30501,none)] (zyo x0 x1 0 ([]:List (List Int))) (A62Cb1 x0 x1)))
theorem zk4 (x0:Int) (x1:Relation×Relation) (hn:0≤x0∧x0≤x1.1.rows.length∧x0≤1048576) (hr:∀ y∈x1.1.rows,y.length≤1048576∧∀ b∈y,0≤b∧b<x1.2.rows.length) (hs:∀ y∈x1.2.rows,y.length≤1048576):FnT Tryz.prog 62 [.int .i64 x0,.clo 109 [.ep [.int .i64 x1.1.size,.ro false 1 x1.1.rows.length (rowOf (cSl false 1 (cInt .i64)) x1.1.rows)] 0,.ep [.int .i64 x1.2.size,.ro false 1 x1.2.rows.length (rowOf (cSl false 1 (cInt .i64)) x1.2.rows)] 0]] (C62C (zim x0 x1)):=by
 have aux:∀ R,zim x0 x1=R→slim (C62C R) (A62C x0 x1) []:=by
  intro R hR
  refine rg trivial ?_
  refine rg trivial ?_
  revert hR;refine lN (fun i v=>(v:List (List Int)).length=i) zai rfl fun i1 v1 F1 hn1 hI1 hR hK1=>?_
  refine rg trivial ?_
  refine ⟨fun hc1=>?_,fun hc1=>?_⟩
  ·have hii1:i1<x0.toNat:=by have:=of_decide_eq_true hc1;omega
   replace hR:=zbj hR hii1
   refine rg trivial ?_
   refine rg trivial ?_
   revert hR;refine lN (fun i v=>(v:List Int).length≤i) zai rfl fun i2 v2 F2 hn2 hI2 hR hK2=>?_
   refine rg trivial ?_
   refine ⟨fun hc2=>?_,fun hc2=>?_⟩
   ·have hii2:i2<x0.toNat:=by have:=of_decide_eq_true hc2;omega
    replace hR:=zbj hR hii2
    refine rg ⟨⟨by (intros;omega),by trivial,by trivial⟩,trivial⟩ ?_
    revert hR;refine cd (fun hc3 hR=>?_) fun hc3 hR=>?_
    ·
      refine rg ⟨trivial,om,trivial⟩ ?_
      refine rg ⟨by ( intros;simp only [inR];omega),trivial⟩ ?_
      exact hK2 (v2++[((i2:Nat):Int)]) hii2 zac hR
    ·
      refine rg ⟨by ( intros;simp only [inR];omega),trivial⟩ ?_
      exact hK2 v2 hii2 za2 hR
   ·obtain rfl:i2=x0.toNat:=by have:=of_decide_eq_false hc2;omega
    replace hR:=zbp hR (Nat.lt_irrefl _)
    refine rg ⟨trivial,om,trivial⟩ ?_
    refine rg ⟨by ( intros;simp only [inR];omega),trivial⟩ ?_
    exact hK1 (v1++[v2]) hii1 zac hR
  ·obtain rfl:i1=x0.toNat:=by have:=of_decide_eq_false hc1;omega
   replace hR:=zbp hR (Nat.lt_irrefl _)
   refine rg trivial ?_
   exact congrArg C62C hR
 exact Fn.go 36 Tryz.func62 zah zah (by simp [C62C,FrsN,nrOf,Frs,FrsL,FrsB,rowOf,cInt,cBool,cStr,cSl,zce,zbq,zb4,zbx,cDyad,cLaw,zd4,cStep,zdv,zdh]) (A62C x0 x1) zah (aux _ rfl)
def k62C (x0:Int) (x1:Relation×Relation):Cl:=(hres (C62C (zim x0 x1)),k3 (zk4 x0 x1))
end Go.Proofs.YtaageiiodlfeiaaGreat
