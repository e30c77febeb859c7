import Derived.Test.YtaageiiodlfeiaaV2
set_option maxHeartbeats 4000000
set_option linter.unusedSimpArgs false
set_option linter.unusedVariables false
namespace Go.Proofs.Ytaageiiodlfeiaa
open Go Go.Lite Go.Proofs
theorem zgr (x : Family) (i q s l : Int) : zec x i q s l = true ↔ q = -1 ∨ 0 ≤ q ∧ q < i ∧ (x.people.getD q.toNat default).sex = s ∧ (x.people.getD q.toNat default).born < (x.people.getD i.toNat default).born ∧
    ((x.people.getD q.toNat default).died=-1∨(x.people.getD i.toNat default).born≤IntKind.wrap .i64 ((x.people.getD q.toNat default).died+l)):=by
 simp only [zec,zea,zpb,zbr,Bool.and_eq_true,Bool.or_eq_true,decide_eq_true_eq,decide_eq_false_iff_not,zbo,Int.not_lt,Int.not_le,and_assoc]
theorem zfo (x : Family) (i : Int) : zd5 x i = true ↔ zco (x.people.getD i.toNat default).name = true ∧ (1 ≤ (x.people.getD i.toNat default).sex ∧ (x.people.getD i.toNat default).sex ≤ 2) ∧ (0 ≤ (x.people.getD i.toNat default).born ∧ (x.people.getD i.toNat default).born ≤ 9999) ∧
    ((x.people.getD i.toNat default).died=-1∨(x.people.getD i.toNat default).born≤(x.people.getD i.toNat default).died∧(x.people.getD i.toNat default).died≤9999)∧(∀ j,j<i.toNat→(x.people.getD j default).name≠(x.people.getD i.toNat default).name) ∧
    zec x i (x.people.getD i.toNat default).father 1 1=true∧zec x i (x.people.getD i.toNat default).mother 2 0=true:=by
 simp only [zd5,zea,zbr,ze4,l1In,zbo,zfq,Bool.and_eq_true,decide_eq_true_eq,beq_eq_false_iff_ne,and_assoc,zbq,decide_eq_false_iff_not,Bool.not_eq_true',← Classical.or_iff_not_imp_left]
theorem zim (x:Family) (k:Nat) (h:zd5 x k=true):(x.people.getD k default).father<k∧(x.people.getD k default).mother<k:=by
 obtain ⟨_,_,_,_,_,h1,h2⟩:=(zfo x k).1 h
 rw [zgr] at h1 h2
 simp only [Int.toNat_natCast] at h1 h2
 omega
def C81 (R:Bool):LV×List (Nat×BC):=(.bool R,[])
def zbh (x0:Family):Bool:=bif ((decide (40<((x0.people.length:Nat):Int)))||(decide (60<((x0.unions.length:Nat):Int)))) then false else (loopN (fun i1 (v1:Unit) next=>bif (!(zd5 x0 ((i1:Nat):Int))) then false else (next ())) (fun (v1:Unit)=>loopN (fun i2 (v2:Unit) next=>bif (decide (10<((zbv x0).getD i2 default))) then false else (next ())) (fun (v2:Unit)=>loopN (fun i3 (v3:Unit) next=>bif (!(zfu x0 ((i3:Nat):Int))) then false else (next ())) (fun (v3:Unit)=>true) x0.unions.length 0 ()) ((zbv x0).length) 0 ()) x0.people.length 0 ())
def D81b1 (x0:Family) (i1:Nat) (v1:Unit):Dl:=⟨[(20,.int .i64 ((i1:Nat):Int))],[]⟩
def D81b2 (x0:Family) (i1:Nat) (v1:Unit) (i2:Nat) (v2:Unit):Dl:=⟨[(31,.int .i64 ((i2:Nat):Int))],[]⟩
def D81b3 (x0:Family) (i1:Nat) (v1:Unit) (i2:Nat) (v2:Unit) (i3:Nat) (v3:Unit):Dl:=⟨[(41,.int .i64 ((i3:Nat):Int))],[]⟩
def A81b3 (x0:Family) (i1:Nat) (v1:Unit) (i2:Nat) (v2:Unit) (i3:Nat) (v3:Unit):Ann:=r0 1 [1,2,40,41,42] [1] (cn (decide (((i3:Nat):Int)<((x0.unions.length:Nat):Int))) (.reg 2 [] [(1002,k135 x0 ((i3:Nat):Int))] [1,2,40,41,47] [1] [] [] [] [0] (cn (!(zfu x0 ((i3:Nat):Int))) (r0 1 [1,2,40,41] [1] (rt [] (C81 false))) (r1 1 [1,2,40,41] [1] [pf (inR .i64 (((i3:Nat):Int)+1))] [0] (.next 0 [] (D81b3 x0 i1 v1 i2 v2 (i3+1) ()))))) (r0 1 [2] [] (rt [] (C81 true))))
def A81b2 (x0:Family) (i1:Nat) (v1:Unit) (i2:Nat) (v2:Unit):Ann:=r0 1 [1,2,29,30,31,32] [1,1029] (cn (decide (((i2:Nat):Int)<(((zbv x0).length:Nat):Int))) (r1 2 [1,2,29,30,31,36] [1,1029] [pf (0≤(((i2:Nat):Int):Int)∧(((i2:Nat):Int):Int)<(((zbv x0).length:Nat):Int))] [0] (cn (decide (10<((zbv x0).getD i2 default))) (r0 1 [1,2,29,30,31] [1,1029] (rt [] (C81 false))) (r1 1 [1,2,29,30,31] [1,1029] [pf (inR .i64 (((i2:Nat):Int)+1))] [0] (.next 0 [] (D81b2 x0 i1 v1 (i2+1) ()))))) (r0 1 [1,2,40,41] [1] (lp (D81b3 x0 i1 v1 i2 v2) [] [] [] (D81b3 x0 i1 v1 i2 v2 0 ()) (A81b3 x0 i1 v1 i2 v2))))
def A81b1 (x0:Family) (i1:Nat) (v1:Unit):Ann:=r0 1 [1,2,19,20,21] [1] (cn (decide (((i1:Nat):Int)<((x0.people.length:Nat):Int))) (.reg 2 [] [(1002,k134 x0 ((i1:Nat):Int))] [1,2,19,20,26] [1] [] [] [] [0] (cn (!(zd5 x0 ((i1:Nat):Int))) (r0 1 [1,2,19,20] [1] (rt [] (C81 false))) (r1 1 [1,2,19,20] [1] [pf (inR .i64 (((i1:Nat):Int)+1))] [0] (.next 0 [] (D81b1 x0 (i1+1) ()))))) (.reg 1 [] [(1,k128 x0)] [1,2,29,30,31] [1,1029] [] [] [] [0] (lp (D81b2 x0 i1 v1) [] [] [] (D81b2 x0 i1 v1 0 ()) (A81b2 x0 i1 v1))))
def A81 (x0:Family):Ann:=r0 1 [1,2] [1] (.reg 1 [] [] [1,2,16] [1] [!(decide (40<((x0.people.length:Nat):Int))),decide (40<((x0.people.length:Nat):Int))] [] [] [1,1,1,6] (cn ((decide (40<((x0.people.length:Nat):Int)))||(decide (60<((x0.unions.length:Nat):Int)))) (r0 1 [1,2] [1] (rt [] (C81 false))) (r0 1 [1,2,19,20] [1] (lp (D81b1 x0) [] [] [] (D81b1 x0 0 ()) (A81b1 x0)))))
theorem zlv (x0:Family) (hx:x0.people.length≤1048576) (hu:x0.unions.length≤1048576) (hn:∀ p∈x0.people,p.name.length≤1048576):FnT Try.prog 81 [.agg (zce false x0)] (C81 (zbh x0)):=by
 have aux:∀ R,zbh x0=R→slim (C81 R) (A81 x0) []:=by
  intro R hR
  refine rg trivial ?_
  refine rg trivial ?_
  revert hR;refine cd (fun hc1 hR=>?_) fun hc1 hR=>?_
  ·
    refine rg trivial ?_
    exact congrArg C81 hR
  ·
    refine rg trivial ?_
    revert hR;refine lN (fun i v=>∀ k:Nat,k<i→zd5 x0 k=true) zaw rfl fun i1 v1 F1 hn1 hI1 hR hK1=>?_
    refine rg trivial ?_
    refine ⟨fun hc2=>?_,fun hc2=>?_⟩
    · have hii1:i1<x0.people.length:=by have:=of_decide_eq_true hc2;omega
      replace hR:=zb0 hR hii1
      refine rg ⟨⟨by trivial,by trivial,by (intros;omega)⟩,trivial⟩ ?_
      revert hR;refine cd (fun hc3 hR=>?_) fun hc3 hR=>?_
      ·
        refine rg trivial ?_
        exact congrArg C81 hR
      ·
        refine rg ⟨by ( intros;simp only [inR];omega),trivial⟩ ?_
        exact hK1 () hii1 (by ((try clear hR hK1);intros;(try simp only [decide_eq_true_eq,decide_eq_false_iff_not,Bool.or_eq_true,Bool.and_eq_true,zbr,zbo,zbq,Bool.not_eq_true',inR] at *);(repeat' apply And.intro)<;>grind [inR,zcz,zdy,zf1,List.length_set,zgj,zd5])) hR
    · obtain rfl:i1=x0.people.length:=by have:=of_decide_eq_false hc2;omega
      replace hR:=zb4 hR (Nat.lt_irrefl _)
      refine rg ⟨⟨by trivial,by (exact fun k hk=>zim _ _ (hI1 k hk))⟩,trivial⟩ ?_
      have hp1:=ze0 x0
      revert hR;refine lN (fun i v=>True) zay rfl fun i2 v2 F2 hn2 hI2 hR hK2=>?_
      refine rg trivial ?_
      refine ⟨fun hc4=>?_,fun hc4=>?_⟩
      · have hii2:i2<(zbv x0).length:=by have:=of_decide_eq_true hc4;omega
        replace hR:=zb0 hR hii2
        refine rg ⟨by (intros;omega),trivial⟩ ?_
        revert hR;refine cd (fun hc5 hR=>?_) fun hc5 hR=>?_
        ·
          refine rg trivial ?_
          exact congrArg C81 hR
        ·
          refine rg ⟨by ( intros;simp only [inR];omega),trivial⟩ ?_
          exact hK2 () hii2 zay hR
      · obtain rfl:i2=(zbv x0).length:=by have:=of_decide_eq_false hc4;omega
        replace hR:=zb4 hR (Nat.lt_irrefl _)
        refine rg trivial ?_
        revert hR;refine lN (fun i v=>True) zay rfl fun i3 v3 F3 hn3 hI3 hR hK3=>?_
        refine rg trivial ?_
        refine ⟨fun hc6=>?_,fun hc6=>?_⟩
        · have hii3:i3<x0.unions.length:=by have:=of_decide_eq_true hc6;omega
          replace hR:=zb0 hR hii3
          refine rg ⟨⟨by trivial,by trivial,by (intros;omega)⟩,trivial⟩ ?_
          revert hR;refine cd (fun hc7 hR=>?_) fun hc7 hR=>?_
          ·
            refine rg trivial ?_
            exact congrArg C81 hR
          ·
            refine rg ⟨by ( intros;simp only [inR];omega),trivial⟩ ?_
            exact hK3 () hii3 zay hR
        · obtain rfl:i3=x0.unions.length:=by have:=of_decide_eq_false hc6;omega
          replace hR:=zb4 hR (Nat.lt_irrefl _)
          refine rg trivial ?_
          exact congrArg C81 hR
 exact Fn.go 49 Try.func81 zax zax (by simp [C81,Frs,FrsL]) (A81 x0) zax (aux _ rfl)
def k81 (x0:Family):Cl:=(hres (C81 (zbh x0)),k3 (zlv x0))
def C41 (R:Bool):LV×List (Nat×BC):=(.bool R,[])
def l1Has (x0:Family) (x1:Int):Bool:=((decide (0≤x1))&&(decide (x1<((x0.people.length:Nat):Int))))&&(zbh x0)
def A41 (x0:Family) (x1:Int):Ann:=.reg 2 [] [(1011,cg ((decide (0≤x1))&&(decide (x1<((x0.people.length:Nat):Int)))) (k81 x0))] [4] [] [decide (0≤x1),(decide (0≤x1))&&(decide (x1<((x0.people.length:Nat):Int)))] [] [] [1,1,1,1,1,5,0,5] (rt [] (C41 (((decide (0≤x1))&&(decide (x1<((x0.people.length:Nat):Int))))&&(zbh x0))))
theorem zpy (x0:Family) (x1:Int) (hx:x0.people.length≤1048576) (hu:x0.unions.length≤1048576) (hn:∀ p∈x0.people,p.name.length≤1048576):FnT Try.prog 41 [.agg (zce false x0),.int .i64 x1] (C41 (l1Has x0 x1)):=by
 have aux:∀ R,l1Has x0 x1=R→slim (C41 R) (A41 x0 x1) []:=by
  intro R hR
  refine rg ⟨fun hg0=>⟨by trivial,by trivial,by trivial⟩,trivial⟩ ?_
  exact congrArg C41 hR
 exact Fn.go 18 Try.func41 zax zax (by simp [C41,Frs,FrsL]) (A41 x0 x1) zax (aux _ rfl)
def k41 (x0:Family) (x1:Int):Cl:=(hres (C41 (l1Has x0 x1)),k3 (zpy x0 x1))
def C107 (R:(List Int)):LV×List (Nat×BC):=(.own 0,[(0,.arr 1 R.length (rowOf (cInt .i64) R))])
def zbj (x0:Family) (x1:Int):(List Int):=bif (decide (0≤((x0.people.getD x1.toNat default).father))) then (bif (decide (0≤((x0.people.getD x1.toNat default).mother))) then ((([]:List Int)++[(x0.people.getD x1.toNat default).father])++[(x0.people.getD x1.toNat default).mother]) else (([]:List Int)++[(x0.people.getD x1.toNat default).father])) else (bif (decide (0≤((x0.people.getD x1.toNat default).mother))) then (([]:List Int)++[(x0.people.getD x1.toNat default).mother]) else ([]:List Int))
def A107 (x0:Family) (x1:Int):Ann:=.reg 2 [] [(1000,bsC 6 (cInt .i64) ([]:List Int))] [1,2,4,5] [2,6] [] [] [] [0] (r1 1 [1,2,4,5,13] [2,6] [pf (0≤(x1:Int)∧(x1:Int)<((x0.people.length:Nat):Int))] [0] (cn (decide (0≤((x0.people.getD x1.toNat default).father))) (.reg 1 [] [(7,bsC 21 (cInt .i64) ([(x0.people.getD x1.toNat default).father]:List Int)),(8,ap1 22 (cInt .i64) 8 ([]:List Int) ((x0.people.getD x1.toNat default).father))] [1,2,4,5] [2,22] [] [pf (0≤(x1:Int)∧(x1:Int)<((x0.people.length:Nat):Int))] [] [0,4,8] (r1 1 [1,2,4,5,29] [2,22] [pf (0≤(x1:Int)∧(x1:Int)<((x0.people.length:Nat):Int))] [0] (cn (decide (0≤((x0.people.getD x1.toNat default).mother))) (.reg 1 [] [(7,bsC 37 (cInt .i64) ([(x0.people.getD x1.toNat default).mother]:List Int)),(8,ap1 38 (cInt .i64) 8 (([]:List Int)++[(x0.people.getD x1.toNat default).father]) ((x0.people.getD x1.toNat default).mother))] [4,5] [38] [] [pf (0≤(x1:Int)∧(x1:Int)<((x0.people.length:Nat):Int))] [] [0,4,8] (r0 1 [4] [38] (rt [(0,some 38)] (C107 ((([]:List Int)++[(x0.people.getD x1.toNat default).father])++[(x0.people.getD x1.toNat default).mother]))))) (r0 1 [4] [22] (rt [(0,some 22)] (C107 (([]:List Int)++[(x0.people.getD x1.toNat default).father]))))))) (r1 1 [1,2,4,5,29] [2,6] [pf (0≤(x1:Int)∧(x1:Int)<((x0.people.length:Nat):Int))] [0] (cn (decide (0≤((x0.people.getD x1.toNat default).mother))) (.reg 1 [] [(7,bsC 37 (cInt .i64) ([(x0.people.getD x1.toNat default).mother]:List Int)),(8,ap1 38 (cInt .i64) 8 ([]:List Int) ((x0.people.getD x1.toNat default).mother))] [4,5] [38] [] [pf (0≤(x1:Int)∧(x1:Int)<((x0.people.length:Nat):Int))] [] [0,4,8] (r0 1 [4] [38] (rt [(0,some 38)] (C107 (([]:List Int)++[(x0.people.getD x1.toNat default).mother]))))) (r0 1 [4] [6] (rt [(0,some 6)] (C107 ([]:List Int))))))))
theorem zck (x:Family) (i:Int):(zbj x i).length≤2∧∀ k:Nat,k<(zbj x i).length→0≤(zbj x i).getD k default∧((zbj x i).getD k default=(x.people.getD i.toNat default).father∨(zbj x i).getD k default=(x.people.getD i.toNat default).mother):=by
 unfold zbj
 cases h1:decide (0≤(x.people.getD i.toNat default).father)<;>cases h2:decide (0≤(x.people.getD i.toNat default).mother)<;>simp only [cond_true,cond_false]<;>refine ⟨by simp,fun k hk=>?_⟩
 ·simp at hk
 ·simp at hk;subst hk;have:=of_decide_eq_true h2;simpa using this
 ·simp at hk;subst hk;have:=of_decide_eq_true h1;simpa using this
 ·have:=of_decide_eq_true h1;have:=of_decide_eq_true h2
  simp at hk
  match k,hk with
  | 0,_=>exact ⟨by assumption,.inl rfl⟩
  | 1,_=>exact ⟨by assumption,.inr rfl⟩
theorem zhd (x0:Family) (x1:Int) (hx:x0.people.length≤1048576) (hi:0≤x1∧x1<x0.people.length):FnT Try.prog 107 [.agg (zce false x0),.int .i64 x1] (C107 (zbj x0 x1)):=by
 have aux:∀ R,zbj x0 x1=R→slim (C107 R) (A107 x0 x1) []:=by
  intro R hR
  refine rg ⟨trivial,trivial⟩ ?_
  refine rg ⟨by trivial,trivial⟩ ?_
  revert hR;refine cd (fun hc1 hR=>?_) fun hc1 hR=>?_
  ·
    refine rg ⟨by trivial,trivial,by trivial,trivial⟩ ?_
    refine rg ⟨by trivial,trivial⟩ ?_
    revert hR;refine cd (fun hc2 hR=>?_) fun hc2 hR=>?_
    ·
      refine rg ⟨by trivial,trivial,by ((try clear hR);intros;(try simp only [decide_eq_true_eq,decide_eq_false_iff_not,Bool.or_eq_true,Bool.and_eq_true,zbr,zbo,zbq,Bool.not_eq_true',inR] at *);(repeat' apply And.intro)<;>(simp_all [inR];done)),trivial⟩ ?_
      refine rg trivial ?_
      exact congrArg C107 hR
    ·
      refine rg trivial ?_
      exact congrArg C107 hR
  ·
    refine rg ⟨by trivial,trivial⟩ ?_
    revert hR;refine cd (fun hc3 hR=>?_) fun hc3 hR=>?_
    ·
      refine rg ⟨by trivial,trivial,by trivial,trivial⟩ ?_
      refine rg trivial ?_
      exact congrArg C107 hR
    ·
      refine rg trivial ?_
      exact congrArg C107 hR
 exact Fn.go 40 Try.func107 zax zax (by simp [C107,Frs,FrsL,FrsB,rowOf,cInt,cBool,cStr,cSl,zdj,zca,zcu,zce]) (A107 x0 x1) zax (aux _ rfl)
def k107 (x0:Family) (x1:Int):Cl:=(hres (C107 (zbj x0 x1)),k2 (zhd x0 x1))
theorem ze5 (x:Family) (p:Int):l1Has x p=true↔(0≤p∧p<x.people.length)∧zbh x=true:=by
 simp only [l1Has,Bool.and_eq_true,decide_eq_true_eq]
theorem zcr (x:Family):zbh x=true↔(x.people.length≤40∧x.unions.length≤60)∧(∀ k:Nat,k<x.people.length→zd5 x k=true)∧(∀ k:Nat,k<x.people.length→(zbv x).getD k default≤10)∧∀ k:Nat,k<x.unions.length→zfu x k=true:=by
 simp only [zbh,zea,zbr,ze4,zbo,decide_eq_false_iff_not,Int.not_lt,ze0,and_true]
 constructor
 ·rintro ⟨⟨h1,h2⟩,h3,h4,h5⟩;exact ⟨⟨om,om⟩,h3,h4,h5⟩
 ·rintro ⟨⟨h1,h2⟩,h3,h4,h5⟩;exact ⟨⟨om,om⟩,h3,h4,h5⟩
theorem zcb (x:Family) (h:zbh x=true):∀ (k:Nat),k<x.people.length→(x.people.getD k default).father<k∧(x.people.getD k default).mother<k:=fun k hk=>zim x k (((zcr x).1 h).2.1 k hk)
def C108 (R:(List Int)):LV×List (Nat×BC):=(.own 0,[(0,.arr 1 R.length (rowOf (cInt .i64) R))])
def l8Up (x0:Family) (x1:Int):(List Int):=loopN (fun i1 (v1:(List Int)) next=>next (v1++[(-1)])) (fun (v1:(List Int))=>loopW (fun (v2:(List Int)×Int) nx2=>bif (decide (0≤v2.2)) then (bif (decide ((v2.1.getD v2.2.toNat default)<0)) then (nx2 (v2.1,v2.2 - 1)) else (loopN (fun i3 (v3:(List Int)) next=>bif ((decide ((v3.getD (((zbj x0 v2.2).getD i3 default).toNat) default)<0))||(decide (((v3.getD v2.2.toNat default)+1)<(v3.getD (((zbj x0 v2.2).getD i3 default).toNat) default)))) then (next (v3.set (((zbj x0 v2.2).getD i3 default).toNat) ((v3.getD v2.2.toNat default)+1))) else (next v3)) (fun (v3:(List Int))=>nx2 (v3,v2.2 - 1)) ((zbj x0 v2.2).length) 0 v2.1)) else v2.1) (((((v1.set x1.toNat 0).length:Nat):Int) - 1+1).toNat+1) ((v1.set x1.toNat 0),(((v1.set x1.toNat 0).length:Nat):Int) - 1)) x0.people.length 0 ([]:List Int)
def zyu (x0:Family) (x1:Int) (i1:Nat) (v1:(List Int)):Dl:=⟨[(13,.int .i64 ((i1:Nat):Int)),(5,.own 20005)],[(20005,.arr 1 v1.length (rowOf (cInt .i64) v1))]⟩
def zvk (x0:Family) (x1:Int) (i1:Nat) (v1:(List Int)) (v2:(List Int)×Int):Dl:=⟨[(5,.own 30005),(6,.int .i64 v2.2)],[(30005,.arr 1 v2.1.length (rowOf (cInt .i64) v2.1))]⟩
def zvj (x0:Family) (x1:Int) (i1:Nat) (v1:(List Int)) (v2:(List Int)×Int) (i3:Nat) (v3:(List Int)):Dl:=⟨[(38,.int .i64 ((i3:Nat):Int)),(5,.own 20005)],[(20005,.arr 1 v3.length (rowOf (cInt .i64) v3))]⟩
def A108b3 (x0:Family) (x1:Int) (i1:Nat) (v1:(List Int)) (v2:(List Int)×Int) (i3:Nat) (v3:(List Int)):Ann:=r0 1 [2,4,5,6,36,37,38,39] [2,1036,20005] (cn (decide (((i3:Nat):Int)<(((zbj x0 v2.2).length:Nat):Int))) (.reg 2 [] [] [2,4,5,6,8,36,37,38,58] [2,1036,20005] [!(decide ((v3.getD (((zbj x0 v2.2).getD i3 default).toNat) default)<0)),decide ((v3.getD (((zbj x0 v2.2).getD i3 default).toNat) default)<0)] [pf (0≤(((i3:Nat):Int):Int)∧(((i3:Nat):Int):Int)<(((zbj x0 v2.2).length:Nat):Int)),pf (0≤(((zbj x0 v2.2).getD i3 default):Int)∧(((zbj x0 v2.2).getD i3 default):Int)<((v3.length:Nat):Int)),gt (!(decide ((v3.getD (((zbj x0 v2.2).getD i3 default).toNat) default)<0))) (pf (0≤(((zbj x0 v2.2).getD i3 default):Int)∧(((zbj x0 v2.2).getD i3 default):Int)<((v3.length:Nat):Int))),gt (!(decide ((v3.getD (((zbj x0 v2.2).getD i3 default).toNat) default)<0))) (pf (0≤(v2.2:Int)∧(v2.2:Int)<((v3.length:Nat):Int))),gt (!(decide ((v3.getD (((zbj x0 v2.2).getD i3 default).toNat) default)<0))) (pf (inR .i64 ((v3.getD v2.2.toNat default)+1)))] [] [0,4,1,1,8,1,1,1,12,1,1,16,1,1,6] (cn ((decide ((v3.getD (((zbj x0 v2.2).getD i3 default).toNat) default)<0))||(decide (((v3.getD v2.2.toNat default)+1)<(v3.getD (((zbj x0 v2.2).getD i3 default).toNat) default)))) (.reg 1 [] [(8,stL 20005 (cInt .i64) v3 (((zbj x0 v2.2).getD i3 default).toNat) ((v3.getD v2.2.toNat default)+1))] [2,4,5,6,36,37,38] [2,1036,20005] [] [pf (0≤(v2.2:Int)∧(v2.2:Int)<((v3.length:Nat):Int)),pf (inR .i64 ((v3.getD v2.2.toNat default)+1)),pf (0≤(((zbj x0 v2.2).getD i3 default):Int)∧(((zbj x0 v2.2).getD i3 default):Int)<((v3.length:Nat):Int))] [] [0,4,8,12] (r1 1 [2,4,5,6,36,37,38] [2,1036,20005] [pf (inR .i64 (((i3:Nat):Int)+1))] [0] (.next 0 [(20005,some 20005)] (zvj x0 x1 i1 v1 v2 (i3+1) (v3.set (((zbj x0 v2.2).getD i3 default).toNat) ((v3.getD v2.2.toNat default)+1)))))) (r1 1 [2,4,5,6,36,37,38] [2,1036,20005] [pf (inR .i64 (((i3:Nat):Int)+1))] [0] (.next 0 [(20005,some 20005)] (zvj x0 x1 i1 v1 v2 (i3+1) v3))))) (r1 1 [2,4,5,6] [2,20005] [pf (inR .i64 (v2.2 - 1))] [0] (.next 1 [(30005,some 20005)] (zvk x0 x1 i1 v1 (v3,v2.2 - 1)))))
def A108b2 (x0:Family) (x1:Int) (i1:Nat) (v1:(List Int)) (v2:(List Int)×Int):Ann:=r0 1 [2,4,5,6,26] [2,30005] (cn (decide (0≤v2.2)) (r1 1 [2,4,5,6,33] [2,30005] [pf (0≤(v2.2:Int)∧(v2.2:Int)<((v2.1.length:Nat):Int))] [0] (cn (decide ((v2.1.getD v2.2.toNat default)<0)) (r1 1 [2,4,5,6] [2,30005] [pf (inR .i64 (v2.2 - 1))] [0] (.next 0 [(30005,some 30005)] (zvk x0 x1 i1 v1 (v2.1,v2.2 - 1)))) (.reg 1 [] [(2,k107 x0 v2.2)] [2,4,5,6,36,37,38] [2,1036,30005] [] [] [] [0] (lp (zvj x0 x1 i1 v1 v2) [] [30005] [(20005,some 30005)] (zvj x0 x1 i1 v1 v2 0 v2.1) (A108b3 x0 x1 i1 v1 v2))))) (r0 1 [4] [30005] (rt [(0,some 30005)] (C108 v2.1))))
def A108b1 (x0:Family) (x1:Int) (i1:Nat) (v1:(List Int)):Ann:=r0 1 [1,2,4,5,12,13,14] [2,20005] (cn (decide (((i1:Nat):Int)<((x0.people.length:Nat):Int))) (.reg 1 [] [(1,bsC 16 (cInt .i64) ([(-1)]:List Int)),(2,ap1 17 (cInt .i64) 8 v1 (-1))] [1,2,4,5,12,13] [2,17] [] [] [] [0,4] (r1 1 [1,2,4,5,12,13] [2,17] [pf (inR .i64 (((i1:Nat):Int)+1))] [0] (.next 0 [(20005,some 17)] (zyu x0 x1 (i1+1) (v1++[(-1)]))))) (.reg 1 [] [(3,stL 20005 (cInt .i64) v1 x1.toNat 0)] [2,4,5] [2,20005] [] [pf (0≤(x1:Int)∧(x1:Int)<((v1.length:Nat):Int))] [] [0,4] (r1 1 [2,4,5,6] [2,20005] [pf (inR .i64 ((((v1.set x1.toNat 0).length:Nat):Int) - 1))] [0] (.loop ((List Int)×Int) (zvk x0 x1 i1 v1) [] [20005] [(30005,some 20005)] (zvk x0 x1 i1 v1 ((v1.set x1.toNat 0),(((v1.set x1.toNat 0).length:Nat):Int) - 1)) (A108b2 x0 x1 i1 v1)))))
def A108 (x0:Family) (x1:Int):Ann:=.reg 2 [] [(1000,bsC 9 (cInt .i64) ([]:List Int))] [1,2,4,5] [2,9] [] [] [] [0] (r0 1 [1,2,4,5,12,13] [2,9] (lp (zyu x0 x1) [] [9] [(20005,some 9)] (zyu x0 x1 0 ([]:List Int)) (A108b1 x0 x1)))
theorem zgq (x:Family) (p:Int):(l8Up x p).length=x.people.length:=by
 unfold l8Up
 refine zcc (fun i (v:List Int)=>v.length=i) (fun (r:List Int)=>r.length=x.people.length) rfl (fun i v next _ hv hn=>hn _ (by simp [hv])) (fun v hv=>?_)
 refine zcj (fun (s:List Int×Int)=>s.1.length=x.people.length) (fun s=>(s.2+1).toNat) (fun (r:List Int)=>r.length=x.people.length) (fun s next hs hn=>?_) _ _ (Nat.lt_succ_self _) (by simp [hv])
 cases h1:decide (0≤s.2)
 ·exact hs
 ·have:=of_decide_eq_true h1
  cases decide (s.1.getD s.2.toNat default<0)
  ·refine zcc (fun i (v:List Int)=>v.length=x.people.length) (fun (r:List Int)=>r.length=x.people.length) hs (fun i v next _ hv hn=>?_) (fun v hv=>hn _ hv zbd)
   cases (_||_:Bool)
   ·exact hn _ hv
   ·exact hn _ (by simp [hv])
  ·exact hn _ hs zbd
theorem zrc (x0:Family) (x1:Int) (hx:x0.people.length≤1048576) (hi:0≤x1∧x1<x0.people.length) (hp:∀ (k:Nat),k<x0.people.length→(x0.people.getD k default).father<k∧(x0.people.getD k default).mother<k):FnT Try.prog 108 [.agg (zce false x0),.int .i64 x1] (C108 (l8Up x0 x1)):=by
 have aux:∀ R,l8Up x0 x1=R→slim (C108 R) (A108 x0 x1) []:=by
  intro R hR
  refine rg ⟨trivial,trivial⟩ ?_
  refine rg trivial ?_
  revert hR;refine lN (fun i v=>v=List.replicate i (-1)) zay rfl fun i1 v1 F1 hn1 hI1 hR hK1=>?_
  refine rg trivial ?_
  refine ⟨fun hc1=>?_,fun hc1=>?_⟩
  ·have hii1:i1<x0.people.length:=by have:=of_decide_eq_true hc1;omega
   replace hR:=zb0 hR hii1
   refine rg ⟨trivial,by (rw [hI1,List.length_replicate];omega),trivial⟩ ?_
   refine rg ⟨by ( intros;simp only [inR];omega),trivial⟩ ?_
   exact hK1 (v1++[(-1)]) hii1 (by (rw [hI1];exact zgj _ _)) hR
  ·obtain rfl:i1=x0.people.length:=by have:=of_decide_eq_false hc1;omega
   replace hR:=zb4 hR (Nat.lt_irrefl _)
   refine rg ⟨by (rw [hI1,List.length_replicate];omega),by (rw [hI1,List.length_replicate];omega),trivial⟩ ?_
   refine rg ⟨by ((try clear hR hK1);intros;(try simp only [decide_eq_true_eq,decide_eq_false_iff_not,Bool.or_eq_true,Bool.and_eq_true,zbr,zbo,zbq,Bool.not_eq_true',inR] at *);(repeat' apply And.intro)<;>(first | (intros;omega) | (have:=hI1;subst this;simp;omega))),trivial⟩ ?_
   revert hR;refine lW (fun v=>Rg v.1 x0.people.length (fun k v=>-1≤v∧v+k≤x0.people.length)∧-1≤v.2∧v.2<x0.people.length) (fun v=>(v.2+1).toNat) (by ((try clear hR hK1);intros;(try simp only [decide_eq_true_eq,decide_eq_false_iff_not,Bool.or_eq_true,Bool.and_eq_true,zbr,zbo,zbq,Bool.not_eq_true',inR] at *);(repeat' apply And.intro)<;>(first | (intros;omega) | (have:=hI1;subst this;simp;omega) | (subst hI1;exact Rg.set (Rg.rep (fun k hk=>by omega)) (fun _=>by omega))))) (Nat.lt_succ_self _) rfl fun m2 v2 F2 hI2 hM2 hR hK2=>?_
   refine rg trivial ?_
   revert hR;refine cd (fun hc2 hR=>?_) fun hc2 hR=>?_
   ·
     refine rg ⟨by ((try clear hR hK1 hK2);intros;(try simp only [decide_eq_true_eq,decide_eq_false_iff_not,Bool.or_eq_true,Bool.and_eq_true,zbr,zbo,zbq,Bool.not_eq_true',inR] at *);(repeat' apply And.intro)<;>(first | (intros;omega) | (have:=hI2.1.len;omega))),trivial⟩ ?_
     revert hR;refine cd (fun hc3 hR=>?_) fun hc3 hR=>?_
     ·
       refine rg ⟨by ( intros;simp only [inR];omega),trivial⟩ ?_
       exact hK2 (v2.1,v2.2 - 1) zaj (by ((try clear hR hK1 hK2);intros;(try simp only [decide_eq_true_eq,decide_eq_false_iff_not,Bool.or_eq_true,Bool.and_eq_true,zbr,zbo,zbq,Bool.not_eq_true',inR] at *);(repeat' apply And.intro)<;>(intros;omega))) hR
     ·
       refine rg ⟨⟨by trivial,by ((try clear hR hK1 hK2);intros;(try simp only [decide_eq_true_eq,decide_eq_false_iff_not,Bool.or_eq_true,Bool.and_eq_true,zbr,zbo,zbq,Bool.not_eq_true',inR] at *);(repeat' apply And.intro)<;>(intros;omega))⟩,trivial⟩ ?_
       have hp1:=zck x0 v2.2
       revert hR;refine lN (fun i v=>Rg v x0.people.length (fun k v=>-1≤v∧v+k≤x0.people.length)∧0≤v2.2∧v2.2<x0.people.length∧0≤v.getD v2.2.toNat default) zaj rfl fun i3 v3 F3 hn3 hI3 hR hK3=>?_
       refine rg trivial ?_
       refine ⟨fun hc4=>?_,fun hc4=>?_⟩
       · have hii3:i3<(zbj x0 v2.2).length:=by have:=of_decide_eq_true hc4;omega
         replace hR:=zb0 hR hii3
         refine rg ⟨by (intros;omega),by (have h1:=(zck x0 v2.2).2 i3 hii3;have h2:=hp v2.2.toNat om;have:=hI3.1.len;omega),by (have h1:=(zck x0 v2.2).2 i3 hii3;have h2:=hp v2.2.toNat om;have:=hI3.1.len;omega),by (have:=hI3.1.len;omega),by ((try clear hR hK1 hK2 hK3);intros;(try simp only [decide_eq_true_eq,decide_eq_false_iff_not,Bool.or_eq_true,Bool.and_eq_true,zbr,zbo,zbq,Bool.not_eq_true',inR] at *);(repeat' apply And.intro)<;>(first | (intros;omega) | (have:=hI3.1.get v2.2.toNat om;have:=hI3.1.len;omega))),trivial⟩ ?_
         revert hR;refine cd (fun hc5 hR=>?_) fun hc5 hR=>?_
         ·
           refine rg ⟨by (have:=hI3.1.len;omega),by ((try clear hR hK1 hK2 hK3);intros;(try simp only [decide_eq_true_eq,decide_eq_false_iff_not,Bool.or_eq_true,Bool.and_eq_true,zbr,zbo,zbq,Bool.not_eq_true',inR] at *);(repeat' apply And.intro)<;>(first | (intros;omega) | (have:=hI3.1.get v2.2.toNat om;have:=hI3.1.len;omega))),by (have h1:=(zck x0 v2.2).2 i3 hii3;have h2:=hp v2.2.toNat om;have:=hI3.1.len;omega),by (have h1:=(zck x0 v2.2).2 i3 hii3;have h2:=hp v2.2.toNat om;have:=hI3.1.len;omega),trivial⟩ ?_
           refine rg ⟨by ( intros;simp only [inR];omega),trivial⟩ ?_
           exact hK3 (v3.set (((zbj x0 v2.2).getD i3 default).toNat) ((v3.getD v2.2.toNat default)+1)) hii3 (by ((try clear hR hK1 hK2 hK3);intros;(try simp only [decide_eq_true_eq,decide_eq_false_iff_not,Bool.or_eq_true,Bool.and_eq_true,zbr,zbo,zbq,Bool.not_eq_true',inR] at *);(repeat' apply And.intro)<;>(first | (intros;omega) | (have h1:=(zck x0 v2.2).2 i3 hii3;have h2:=hp v2.2.toNat om;have h3:=hI3.1.get v2.2.toNat om;exact Rg.set hI3.1 (fun _=>by omega)) | (have h1:=(zck x0 v2.2).2 i3 hii3;have h2:=hp v2.2.toNat om;have h3:=hI3.1.get v2.2.toNat om;have:=hI3.1.len;rw [zcz,if_neg om];omega)))) hR
         ·
           refine rg ⟨by ( intros;simp only [inR];omega),trivial⟩ ?_
           exact hK3 v3 hii3 zay hR
       · obtain rfl:i3=(zbj x0 v2.2).length:=by have:=of_decide_eq_false hc4;omega
         replace hR:=zb4 hR (Nat.lt_irrefl _)
         refine rg ⟨by ( intros;simp only [inR];omega),trivial⟩ ?_
         exact hK2 (v3,v2.2 - 1) (by ((try clear hR hK1 hK2 hK3);intros;(try simp only [decide_eq_true_eq,decide_eq_false_iff_not,Bool.or_eq_true,Bool.and_eq_true,zbr,zbo,zbq,Bool.not_eq_true',inR] at *);(repeat' apply And.intro)<;>(first | (intros;omega) | (simp_all [inR];done)))) zaw hR
   ·
     refine rg trivial ?_
     exact congrArg C108 hR
 exact Fn.go 69 Try.func108 zax zax (by simp [C108,Frs,FrsL,FrsB,rowOf,cInt,cBool,cStr,cSl,zdj,zca,zcu,zce]) (A108 x0 x1) zax (aux _ rfl)
def k108 (x0:Family) (x1:Int):Cl:=(hres (C108 (l8Up x0 x1)),k3 (zrc x0 x1))
end Go.Proofs.Ytaageiiodlfeiaa
