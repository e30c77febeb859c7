import Derived.Test.YtaageiiodlfeiaaGreatV2
set_option maxHeartbeats 4000000
set_option linter.unusedSimpArgs false
set_option linter.unusedVariables false
namespace Go.Proofs.YtaageiiodlfeiaaGreat
open Go Go.Lite Go.Proofs
theorem zgt (x : Family) (i q s l : Int) : zej x i q s l = true ↔ q = -1 ∨ 0 ≤ q ∧ q < i ∧ (x.people.getD q.toNat default).sex = s ∧ (x.people.getD q.toNat default).born < (x.people.getD i.toNat default).born ∧
    ((x.people.getD q.toNat default).died=-1∨(x.people.getD i.toNat default).born≤IntKind.wrap .i64 ((x.people.getD q.toNat default).died+l)):=by
 simp only [zej,zdo,zqg,zbd,Bool.and_eq_true,Bool.or_eq_true,decide_eq_true_eq,decide_eq_false_iff_not,za9,Int.not_lt,Int.not_le,and_assoc]
theorem zfx (x : Family) (i : Int) : zea x i = true ↔ zcc (x.people.getD i.toNat default).name = true ∧ (1 ≤ (x.people.getD i.toNat default).sex ∧ (x.people.getD i.toNat default).sex ≤ 2) ∧ (0 ≤ (x.people.getD i.toNat default).born ∧ (x.people.getD i.toNat default).born ≤ 9999) ∧
    ((x.people.getD i.toNat default).died=-1∨(x.people.getD i.toNat default).born≤(x.people.getD i.toNat default).died∧(x.people.getD i.toNat default).died≤9999)∧(∀ j,j<i.toNat→(x.people.getD j default).name≠(x.people.getD i.toNat default).name) ∧
    zej x i (x.people.getD i.toNat default).father 1 1=true∧zej x i (x.people.getD i.toNat default).mother 2 0=true:=by
 simp only [zea,zdo,zbd,zfb,l1In,za9,zih,Bool.and_eq_true,decide_eq_true_eq,beq_eq_false_iff_ne,and_assoc,zba,decide_eq_false_iff_not,Bool.not_eq_true',← Classical.or_iff_not_imp_left]
theorem zib (x:Family) (k:Nat) (h:zea x k=true):(x.people.getD k default).father<k∧(x.people.getD k default).mother<k:=by
 obtain ⟨_,_,_,_,_,h1,h2⟩:=(zfx x k).1 h
 rw [zgt] at h1 h2
 simp only [Int.toNat_natCast] at h1 h2
 omega
def C39 (R:Bool):LV×List (Nat×BC):=(.bool R,[])
def za4 (x0:Family):Bool:=bif ((decide (40<((x0.people.length:Nat):Int)))||(decide (60<((x0.unions.length:Nat):Int)))) then false else (loopN (fun i1 (v1:Unit) next=>bif (!(zea x0 ((i1:Nat):Int))) then false else (next ())) (fun (v1:Unit)=>loopN (fun i2 (v2:Unit) next=>bif (decide (10<((zbi x0).getD i2 default))) then false else (next ())) (fun (v2:Unit)=>loopN (fun i3 (v3:Unit) next=>bif (!(zfz x0 ((i3:Nat):Int))) then false else (next ())) (fun (v3:Unit)=>true) x0.unions.length 0 ()) ((zbi x0).length) 0 ()) x0.people.length 0 ())
def D39b1 (x0:Family) (i1:Nat) (v1:Unit):Dl:=⟨[(20,.int .i64 ((i1:Nat):Int))],[]⟩
def D39b2 (x0:Family) (i1:Nat) (v1:Unit) (i2:Nat) (v2:Unit):Dl:=⟨[(31,.int .i64 ((i2:Nat):Int))],[]⟩
def D39b3 (x0:Family) (i1:Nat) (v1:Unit) (i2:Nat) (v2:Unit) (i3:Nat) (v3:Unit):Dl:=⟨[(41,.int .i64 ((i3:Nat):Int))],[]⟩
def A39b3 (x0:Family) (i1:Nat) (v1:Unit) (i2:Nat) (v2:Unit) (i3:Nat) (v3:Unit):Ann:=r0 1 [1,2,40,41,42] [1] (cn (decide (((i3:Nat):Int)<((x0.unions.length:Nat):Int))) (.reg 2 [] [(1002,k83 x0 ((i3:Nat):Int))] [1,2,40,41,47] [1] [] [] [] [0] (cn (!(zfz x0 ((i3:Nat):Int))) (r0 1 [1,2,40,41] [1] (rt [] (C39 false))) (r1 1 [1,2,40,41] [1] [pf (inR .i64 (((i3:Nat):Int)+1))] [0] (.next 0 [] (D39b3 x0 i1 v1 i2 v2 (i3+1) ()))))) (r0 1 [2] [] (rt [] (C39 true))))
def A39b2 (x0:Family) (i1:Nat) (v1:Unit) (i2:Nat) (v2:Unit):Ann:=r0 1 [1,2,29,30,31,32] [1,1029] (cn (decide (((i2:Nat):Int)<(((zbi x0).length:Nat):Int))) (r1 2 [1,2,29,30,31,36] [1,1029] [pf (0≤(((i2:Nat):Int):Int)∧(((i2:Nat):Int):Int)<(((zbi x0).length:Nat):Int))] [0] (cn (decide (10<((zbi x0).getD i2 default))) (r0 1 [1,2,29,30,31] [1,1029] (rt [] (C39 false))) (r1 1 [1,2,29,30,31] [1,1029] [pf (inR .i64 (((i2:Nat):Int)+1))] [0] (.next 0 [] (D39b2 x0 i1 v1 (i2+1) ()))))) (r0 1 [1,2,40,41] [1] (lp (D39b3 x0 i1 v1 i2 v2) [] [] [] (D39b3 x0 i1 v1 i2 v2 0 ()) (A39b3 x0 i1 v1 i2 v2))))
def A39b1 (x0:Family) (i1:Nat) (v1:Unit):Ann:=r0 1 [1,2,19,20,21] [1] (cn (decide (((i1:Nat):Int)<((x0.people.length:Nat):Int))) (.reg 2 [] [(1002,k81 x0 ((i1:Nat):Int))] [1,2,19,20,26] [1] [] [] [] [0] (cn (!(zea x0 ((i1:Nat):Int))) (r0 1 [1,2,19,20] [1] (rt [] (C39 false))) (r1 1 [1,2,19,20] [1] [pf (inR .i64 (((i1:Nat):Int)+1))] [0] (.next 0 [] (D39b1 x0 (i1+1) ()))))) (.reg 1 [] [(1,k82 x0)] [1,2,29,30,31] [1,1029] [] [] [] [0] (lp (D39b2 x0 i1 v1) [] [] [] (D39b2 x0 i1 v1 0 ()) (A39b2 x0 i1 v1))))
def A39 (x0:Family):Ann:=r0 1 [1,2] [1] (.reg 1 [] [] [1,2,16] [1] [!(decide (40<((x0.people.length:Nat):Int))),decide (40<((x0.people.length:Nat):Int))] [] [] [1,1,1,6] (cn ((decide (40<((x0.people.length:Nat):Int)))||(decide (60<((x0.unions.length:Nat):Int)))) (r0 1 [1,2] [1] (rt [] (C39 false))) (r0 1 [1,2,19,20] [1] (lp (D39b1 x0) [] [] [] (D39b1 x0 0 ()) (A39b1 x0)))))
theorem zl8 (x0:Family) (hx:x0.people.length≤1048576) (hu:x0.unions.length≤1048576) (hn:∀ p∈x0.people,p.name.length≤1048576):FnT Tryz.prog 39 [.agg (zbx false x0)] (C39 (za4 x0)):=by
 have aux:∀ R,za4 x0=R→slim (C39 R) (A39 x0) []:=by
  intro R hR
  refine rg trivial ?_
  refine rg trivial ?_
  revert hR;refine cd (fun hc1 hR=>?_) fun hc1 hR=>?_
  ·
    refine rg trivial ?_
    exact congrArg C39 hR
  ·
    refine rg trivial ?_
    revert hR;refine lN (fun i v=>∀ k:Nat,k<i→zea x0 k=true) za2 rfl fun i1 v1 F1 hn1 hI1 hR hK1=>?_
    refine rg trivial ?_
    refine ⟨fun hc2=>?_,fun hc2=>?_⟩
    · have hii1:i1<x0.people.length:=by have:=of_decide_eq_true hc2;omega
      replace hR:=zbj hR hii1
      refine rg ⟨⟨by trivial,by trivial,by (intros;omega)⟩,trivial⟩ ?_
      revert hR;refine cd (fun hc3 hR=>?_) fun hc3 hR=>?_
      ·
        refine rg trivial ?_
        exact congrArg C39 hR
      ·
        refine rg ⟨by ( intros;simp only [inR];omega),trivial⟩ ?_
        exact hK1 () hii1 (by ((try clear hR hK1);intros;(try simp only [decide_eq_true_eq,decide_eq_false_iff_not,Bool.or_eq_true,Bool.and_eq_true,zbd,za9,zba,Bool.not_eq_true',inR] at *);(repeat' apply And.intro)<;>grind [inR,zcf,zdu,zfd,List.length_set,zhj,zea])) hR
    · obtain rfl:i1=x0.people.length:=by have:=of_decide_eq_false hc2;omega
      replace hR:=zbp hR (Nat.lt_irrefl _)
      refine rg ⟨⟨by trivial,by (exact fun k hk=>zib _ _ (hI1 k hk))⟩,trivial⟩ ?_
      have hp1:=ze5 x0
      revert hR;refine lN (fun i v=>True) zai rfl fun i2 v2 F2 hn2 hI2 hR hK2=>?_
      refine rg trivial ?_
      refine ⟨fun hc4=>?_,fun hc4=>?_⟩
      · have hii2:i2<(zbi x0).length:=by have:=of_decide_eq_true hc4;omega
        replace hR:=zbj hR hii2
        refine rg ⟨by (intros;omega),trivial⟩ ?_
        revert hR;refine cd (fun hc5 hR=>?_) fun hc5 hR=>?_
        ·
          refine rg trivial ?_
          exact congrArg C39 hR
        ·
          refine rg ⟨by ( intros;simp only [inR];omega),trivial⟩ ?_
          exact hK2 () hii2 zai hR
      · obtain rfl:i2=(zbi x0).length:=by have:=of_decide_eq_false hc4;omega
        replace hR:=zbp hR (Nat.lt_irrefl _)
        refine rg trivial ?_
        revert hR;refine lN (fun i v=>True) zai rfl fun i3 v3 F3 hn3 hI3 hR hK3=>?_
        refine rg trivial ?_
        refine ⟨fun hc6=>?_,fun hc6=>?_⟩
        · have hii3:i3<x0.unions.length:=by have:=of_decide_eq_true hc6;omega
          replace hR:=zbj hR hii3
          refine rg ⟨⟨by trivial,by trivial,by (intros;omega)⟩,trivial⟩ ?_
          revert hR;refine cd (fun hc7 hR=>?_) fun hc7 hR=>?_
          ·
            refine rg trivial ?_
            exact congrArg C39 hR
          ·
            refine rg ⟨by ( intros;simp only [inR];omega),trivial⟩ ?_
            exact hK3 () hii3 zai hR
        · obtain rfl:i3=x0.unions.length:=by have:=of_decide_eq_false hc6;omega
          replace hR:=zbp hR (Nat.lt_irrefl _)
          refine rg trivial ?_
          exact congrArg C39 hR
 exact Fn.go 49 Tryz.func39 zah zah (by simp [C39,Frs,FrsL]) (A39 x0) zah (aux _ rfl)
def k39 (x0:Family):Cl:=(hres (C39 (za4 x0)),k3 (zl8 x0))
def l1Has (x0:Family) (x1:Int):Bool:=((decide (0≤x1))&&(decide (x1<((x0.people.length:Nat):Int))))&&(za4 x0)
def C124 (R:(List Int)):LV×List (Nat×BC):=(.own 0,[(0,.arr 1 R.length (rowOf (cInt .i64) R))])
def zbe (x0:Family) (x1:Int):(List Int):=bif (decide (0≤((x0.people.getD x1.toNat default).father))) then (bif (decide (0≤((x0.people.getD x1.toNat default).mother))) then ((([]:List Int)++[(x0.people.getD x1.toNat default).father])++[(x0.people.getD x1.toNat default).mother]) else (([]:List Int)++[(x0.people.getD x1.toNat default).father])) else (bif (decide (0≤((x0.people.getD x1.toNat default).mother))) then (([]:List Int)++[(x0.people.getD x1.toNat default).mother]) else ([]:List Int))
def A124 (x0:Family) (x1:Int):Ann:=.reg 2 [] [(1000,bsC 6 (cInt .i64) ([]:List Int))] [1,2,4,5] [2,6] [] [] [] [0] (r1 1 [1,2,4,5,13] [2,6] [pf (0≤(x1:Int)∧(x1:Int)<((x0.people.length:Nat):Int))] [0] (cn (decide (0≤((x0.people.getD x1.toNat default).father))) (.reg 1 [] [(7,bsC 21 (cInt .i64) ([(x0.people.getD x1.toNat default).father]:List Int)),(8,ap1 22 (cInt .i64) 8 ([]:List Int) ((x0.people.getD x1.toNat default).father))] [1,2,4,5] [2,22] [] [pf (0≤(x1:Int)∧(x1:Int)<((x0.people.length:Nat):Int))] [] [0,4,8] (r1 1 [1,2,4,5,29] [2,22] [pf (0≤(x1:Int)∧(x1:Int)<((x0.people.length:Nat):Int))] [0] (cn (decide (0≤((x0.people.getD x1.toNat default).mother))) (.reg 1 [] [(7,bsC 37 (cInt .i64) ([(x0.people.getD x1.toNat default).mother]:List Int)),(8,ap1 38 (cInt .i64) 8 (([]:List Int)++[(x0.people.getD x1.toNat default).father]) ((x0.people.getD x1.toNat default).mother))] [4,5] [38] [] [pf (0≤(x1:Int)∧(x1:Int)<((x0.people.length:Nat):Int))] [] [0,4,8] (r0 1 [4] [38] (rt [(0,some 38)] (C124 ((([]:List Int)++[(x0.people.getD x1.toNat default).father])++[(x0.people.getD x1.toNat default).mother]))))) (r0 1 [4] [22] (rt [(0,some 22)] (C124 (([]:List Int)++[(x0.people.getD x1.toNat default).father]))))))) (r1 1 [1,2,4,5,29] [2,6] [pf (0≤(x1:Int)∧(x1:Int)<((x0.people.length:Nat):Int))] [0] (cn (decide (0≤((x0.people.getD x1.toNat default).mother))) (.reg 1 [] [(7,bsC 37 (cInt .i64) ([(x0.people.getD x1.toNat default).mother]:List Int)),(8,ap1 38 (cInt .i64) 8 ([]:List Int) ((x0.people.getD x1.toNat default).mother))] [4,5] [38] [] [pf (0≤(x1:Int)∧(x1:Int)<((x0.people.length:Nat):Int))] [] [0,4,8] (r0 1 [4] [38] (rt [(0,some 38)] (C124 (([]:List Int)++[(x0.people.getD x1.toNat default).mother]))))) (r0 1 [4] [6] (rt [(0,some 6)] (C124 ([]:List Int))))))))
theorem zdb (x:Family) (i:Int):(zbe x i).length≤2∧∀ k:Nat,k<(zbe x i).length→0≤(zbe x i).getD k default∧((zbe x i).getD k default=(x.people.getD i.toNat default).father∨(zbe x i).getD k default=(x.people.getD i.toNat default).mother):=by
 unfold zbe
 cases h1:decide (0≤(x.people.getD i.toNat default).father)<;>cases h2:decide (0≤(x.people.getD i.toNat default).mother)<;>simp only [cond_true,cond_false]<;>refine ⟨by simp,fun k hk=>?_⟩
 ·simp at hk
 ·simp at hk;subst hk;have:=of_decide_eq_true h2;simpa using this
 ·simp at hk;subst hk;have:=of_decide_eq_true h1;simpa using this
 ·have:=of_decide_eq_true h1;have:=of_decide_eq_true h2
  simp at hk
  match k,hk with
  | 0,_=>exact ⟨by assumption,.inl rfl⟩
  | 1,_=>exact ⟨by assumption,.inr rfl⟩
theorem zkv (x0:Family) (x1:Int) (hx:x0.people.length≤1048576) (hi:0≤x1∧x1<x0.people.length):FnT Tryz.prog 124 [.agg (zbx false x0),.int .i64 x1] (C124 (zbe x0 x1)):=by
 have aux:∀ R,zbe x0 x1=R→slim (C124 R) (A124 x0 x1) []:=by
  intro R hR
  refine rg ⟨trivial,trivial⟩ ?_
  refine rg ⟨by trivial,trivial⟩ ?_
  revert hR;refine cd (fun hc1 hR=>?_) fun hc1 hR=>?_
  ·
    refine rg ⟨by trivial,trivial,by trivial,trivial⟩ ?_
    refine rg ⟨by trivial,trivial⟩ ?_
    revert hR;refine cd (fun hc2 hR=>?_) fun hc2 hR=>?_
    ·
      refine rg ⟨by trivial,trivial,by ((try clear hR);intros;(try simp only [decide_eq_true_eq,decide_eq_false_iff_not,Bool.or_eq_true,Bool.and_eq_true,zbd,za9,zba,Bool.not_eq_true',inR] at *);(repeat' apply And.intro)<;>(simp_all [inR];done)),trivial⟩ ?_
      refine rg trivial ?_
      exact congrArg C124 hR
    ·
      refine rg trivial ?_
      exact congrArg C124 hR
  ·
    refine rg ⟨by trivial,trivial⟩ ?_
    revert hR;refine cd (fun hc3 hR=>?_) fun hc3 hR=>?_
    ·
      refine rg ⟨by trivial,trivial,by trivial,trivial⟩ ?_
      refine rg trivial ?_
      exact congrArg C124 hR
    ·
      refine rg trivial ?_
      exact congrArg C124 hR
 exact Fn.go 40 Tryz.func124 zah zah (by simp [C124,Frs,FrsL,FrsB,rowOf,cInt,cBool,cStr,cSl,zce,zbq,zb4,zbx]) (A124 x0 x1) zah (aux _ rfl)
theorem zed (x:Family) (p:Int):l1Has x p=true↔(0≤p∧p<x.people.length)∧za4 x=true:=by
 simp only [l1Has,Bool.and_eq_true,decide_eq_true_eq]
theorem zch (x:Family):za4 x=true↔(x.people.length≤40∧x.unions.length≤60)∧(∀ k:Nat,k<x.people.length→zea x k=true)∧(∀ k:Nat,k<x.people.length→(zbi x).getD k default≤10)∧∀ k:Nat,k<x.unions.length→zfz x k=true:=by
 simp only [za4,zdo,zbd,zfb,za9,decide_eq_false_iff_not,Int.not_lt,ze5,and_true]
 constructor
 ·rintro ⟨⟨h1,h2⟩,h3,h4,h5⟩;exact ⟨⟨om,om⟩,h3,h4,h5⟩
 ·rintro ⟨⟨h1,h2⟩,h3,h4,h5⟩;exact ⟨⟨om,om⟩,h3,h4,h5⟩
theorem zbn (x:Family) (h:za4 x=true):∀ (k:Nat),k<x.people.length→(x.people.getD k default).father<k∧(x.people.getD k default).mother<k:=fun k hk=>zib x k (((zch x).1 h).2.1 k hk)
def l8Up (x0:Family) (x1:Int):(List Int):=loopN (fun i1 (v1:(List Int)) next=>next (v1++[(-1)])) (fun (v1:(List Int))=>loopW (fun (v2:(List Int)×Int) next=>bif (decide (0≤v2.2)) then (bif (decide ((v2.1.getD v2.2.toNat default)<0)) then (next (v2.1,v2.2 - 1)) else (loopN (fun i3 (v3:(List Int)) next=>bif ((decide ((v3.getD (((zbe x0 v2.2).getD i3 default).toNat) default)<0))||(decide (((v3.getD v2.2.toNat default)+1)<(v3.getD (((zbe x0 v2.2).getD i3 default).toNat) default)))) then (next (v3.set (((zbe x0 v2.2).getD i3 default).toNat) ((v3.getD v2.2.toNat default)+1))) else (next v3)) (fun (v3:(List Int))=>next (v3,v2.2 - 1)) ((zbe x0 v2.2).length) 0 v2.1)) else v2.1) ((((v1.length:Nat):Int) - 1+1).toNat+1) ((v1.set x1.toNat 0),((v1.length:Nat):Int) - 1)) x0.people.length 0 ([]:List Int)
theorem zrq (x:Family) (p:Int):(l8Up x p).length=x.people.length:=by
 unfold l8Up
 refine zb3 (fun i (v:List Int)=>v.length=i) (fun (r:List Int)=>r.length=x.people.length) rfl (fun i v next _ hv hn=>hn _ (by simp [hv])) (fun v hv=>?_)
 refine ze0 (fun (s:List Int×Int)=>s.1.length=x.people.length) (fun s=>(s.2+1).toNat) (fun (r:List Int)=>r.length=x.people.length) (fun s next hs hn=>?_) _ _ (Nat.lt_succ_self _) (by simp [hv])
 cases h1:decide (0≤s.2)
 ·exact hs
 ·have:=of_decide_eq_true h1
  cases decide (s.1.getD s.2.toNat default<0)
  ·refine zb3 (fun i (v:List Int)=>v.length=x.people.length) (fun (r:List Int)=>r.length=x.people.length) hs (fun i v next _ hv hn=>?_) (fun v hv=>hn _ hv zaz)
   cases (_||_:Bool)
   ·exact hn _ hv
   ·exact hn _ (by simp [hv])
  ·exact hn _ hs zaz
end Go.Proofs.YtaageiiodlfeiaaGreat
