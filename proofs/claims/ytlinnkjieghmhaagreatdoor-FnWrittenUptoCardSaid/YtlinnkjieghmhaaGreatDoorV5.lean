import Derived.Test.YtlinnkjieghmhaaGreatDoorV2
set_option maxHeartbeats 4000000
set_option linter.unusedSimpArgs false
set_option linter.unusedVariables false
namespace Go.Proofs.YtlinnkjieghmhaaGreatDoor
open Go Go.Lite Go.Proofs
theorem zgk (x : yc) (i q s l : Int) : zeg x i q s l = true ↔ q = -1 ∨ 0 ≤ q ∧ q < i ∧ (x.people.getD q.toNat default).sex = s ∧ (x.people.getD q.toNat default).born < (x.people.getD i.toNat default).born ∧
    ((x.people.getD q.toNat default).died=-1∨(x.people.getD i.toNat default).born≤IntKind.wrap .i64 ((x.people.getD q.toNat default).died+l)):=by
 simp only [zeg,zey,zq3,zbd,Bool.and_eq_true,Bool.or_eq_true,decide_eq_true_eq,decide_eq_false_iff_not,zbb,Int.not_lt,Int.not_le,and_assoc]
theorem zfo (x : yc) (i : Int) : zd5 x i = true ↔ zcp (x.people.getD i.toNat default).name = true ∧ (1 ≤ (x.people.getD i.toNat default).sex ∧ (x.people.getD i.toNat default).sex ≤ 2) ∧ (0 ≤ (x.people.getD i.toNat default).born ∧ (x.people.getD i.toNat default).born ≤ 9999) ∧
    ((x.people.getD i.toNat default).died=-1∨(x.people.getD i.toNat default).born≤(x.people.getD i.toNat default).died∧(x.people.getD i.toNat default).died≤9999)∧(∀ j,j<i.toNat→(x.people.getD j default).name≠(x.people.getD i.toNat default).name) ∧
    zeg x i (x.people.getD i.toNat default).father 1 1=true∧zeg x i (x.people.getD i.toNat default).mother 2 0=true:=by
 simp only [zd5,zey,zbd,zeo,l1In,zbb,zi0,Bool.and_eq_true,decide_eq_true_eq,beq_eq_false_iff_ne,and_assoc,zbc,decide_eq_false_iff_not,Bool.not_eq_true',← Classical.or_iff_not_imp_left]
theorem ziu (x:yc) (k:Nat) (h:zd5 x k=true):(x.people.getD k default).father<k∧(x.people.getD k default).mother<k:=by
 obtain ⟨_,_,_,_,_,h1,h2⟩:=(zfo x k).1 h
 rw [zgk] at h1 h2
 simp only [Int.toNat_natCast] at h1 h2
 omega
def C62 (R:Bool):LV×List (Nat×BC):=(.bool R,[])
def za9 (x0:yc):Bool:=bif ((decide (40<((x0.people.length:Nat):Int)))||(decide (60<((x0.unions.length:Nat):Int)))) then false else (loopN (fun i1 (v1:Unit) next=>bif (!(zd5 x0 ((i1:Nat):Int))) then false else (next ())) (fun (v1:Unit)=>loopN (fun i2 (v2:Unit) next=>bif (decide (10<((zbj x0).getD i2 default))) then false else (next ())) (fun (v2:Unit)=>loopN (fun i3 (v3:Unit) next=>bif (!(zfs x0 ((i3:Nat):Int))) then false else (next ())) (fun (v3:Unit)=>true) x0.unions.length 0 ()) ((zbj x0).length) 0 ()) x0.people.length 0 ())
def D62b1 (i1:Nat) (v1:Unit):Dl:=⟨[(20,.int .i64 ((i1:Nat):Int))],[]⟩
def D62b2 (i2:Nat) (v2:Unit):Dl:=⟨[(31,.int .i64 ((i2:Nat):Int))],[]⟩
def D62b3 (i3:Nat) (v3:Unit):Dl:=⟨[(41,.int .i64 ((i3:Nat):Int))],[]⟩
def A62b3 (x0:yc) (i3:Nat) (v3:Unit):Ann:=let q1:=((i3:Nat):Int);r0 1 [1,2,40,41,42] [1] (cn (decide (q1<((x0.unions.length:Nat):Int))) (.reg 2 [] [(1002,k75 x0 q1)] [1,2,40,41,47] [1] [] [] [] [0] (cn (!(zfs x0 q1)) (r0 1 [1,2,40,41] [1] (rt [] (C62 false))) (r1 1 [1,2,40,41] [1] [pf (inR .i64 (q1+1))] [0] (.next 0 [] (D62b3 (i3+1) ()))))) (r0 1 [2] [] (rt [] (C62 true))))
def A62b2 (x0:yc) (i2:Nat) (v2:Unit):Ann:=let q1:=((i2:Nat):Int);let q2:=(((zbj x0).length:Nat):Int);r0 1 [1,2,29,30,31,32] [1,1029] (cn (decide (q1<q2)) (r1 2 [1,2,29,30,31,36] [1,1029] [pf (0≤(q1:Int)∧(q1:Int)<q2)] [0] (cn (decide (10<((zbj x0).getD i2 default))) (r0 1 [1,2,29,30,31] [1,1029] (rt [] (C62 false))) (r1 1 [1,2,29,30,31] [1,1029] [pf (inR .i64 (q1+1))] [0] (.next 0 [] (D62b2 (i2+1) ()))))) (r0 1 [1,2,40,41] [1] (lp (D62b3) [] [] [] (D62b3 0 ()) (A62b3 x0))))
def A62b1 (x0:yc) (i1:Nat) (v1:Unit):Ann:=let q1:=((i1:Nat):Int);r0 1 [1,2,19,20,21] [1] (cn (decide (q1<((x0.people.length:Nat):Int))) (.reg 2 [] [(1002,k74 x0 q1)] [1,2,19,20,26] [1] [] [] [] [0] (cn (!(zd5 x0 q1)) (r0 1 [1,2,19,20] [1] (rt [] (C62 false))) (r1 1 [1,2,19,20] [1] [pf (inR .i64 (q1+1))] [0] (.next 0 [] (D62b1 (i1+1) ()))))) (.reg 1 [] [(1,k31 x0)] [1,2,29,30,31] [1,1029] [] [] [] [0] (lp (D62b2) [] [] [] (D62b2 0 ()) (A62b2 x0))))
def A62 (x0:yc):Ann:=let q1:=(40<((x0.people.length:Nat):Int));r0 1 [1,2] [1] (.reg 1 [] [] [1,2,16] [1] [!(decide q1),decide q1] [] [] [1,1,1,6] (cn ((decide q1)||(decide (60<((x0.unions.length:Nat):Int)))) (r0 1 [1,2] [1] (rt [] (C62 false))) (r0 1 [1,2,19,20] [1] (lp (D62b1) [] [] [] (D62b1 0 ()) (A62b1 x0)))))
theorem zm5 (x0:yc) (hx:x0.people.length≤1048576) (hu:x0.unions.length≤1048576) (hn:∀ p∈x0.people,p.name.length≤1048576):FnT Tryz.prog 62 [.agg (zcf false x0)] (C62 (za9 x0)):=by
 have aux:∀ R,za9 x0=R→slim (C62 R) (A62 x0) []:=by
  intro R hR
  refine rg trivial ?_
  refine rg trivial ?_
  revert hR;refine cd (fun hc1 hR=>?_) fun hc1 hR=>?_
  ·
    refine rg trivial ?_
    exact congrArg C62 hR
  ·
    refine rg trivial ?_
    revert hR;refine lN (fun i v=>∀ k:Nat,k<i→zd5 x0 k=true) zar rfl fun i1 v1 F1 hn1 hI1 hR hK1=>?_
    refine rg trivial ?_
    refine ⟨fun hc2=>?_,fun hc2=>?_⟩
    · have hii1:i1<x0.people.length:=by have:=of_decide_eq_true hc2;omega
      replace hR:=zbq hR hii1
      refine rg ⟨⟨by trivial,by trivial,by (intros;omega)⟩,trivial⟩ ?_
      revert hR;refine cd (fun hc3 hR=>?_) fun hc3 hR=>?_
      ·
        refine rg trivial ?_
        exact congrArg C62 hR
      ·
        refine rg ⟨by ( intros;simp only [inR];omega),trivial⟩ ?_
        exact hK1 () hii1 (by ((try clear hR hK1);intros;(try simp only [decide_eq_true_eq,decide_eq_false_iff_not,Bool.or_eq_true,Bool.and_eq_true,zbd,zbb,zbc,Bool.not_eq_true',inR] at *);(repeat' apply And.intro)<;>grind [inR,zco,zcy,zgl,List.length_set,zi6,zd5])) hR
    · obtain rfl:i1=x0.people.length:=by have:=of_decide_eq_false hc2;omega
      replace hR:=zbu hR (Nat.lt_irrefl _)
      refine rg ⟨⟨by trivial,by (exact fun k hk=>ziu _ _ (hI1 k hk))⟩,trivial⟩ ?_
      have hp1:=zex x0
      revert hR;refine lN (fun i v=>True) za6 rfl fun i2 v2 F2 hn2 hI2 hR hK2=>?_
      refine rg trivial ?_
      refine ⟨fun hc4=>?_,fun hc4=>?_⟩
      · have hii2:i2<(zbj x0).length:=by have:=of_decide_eq_true hc4;omega
        replace hR:=zbq hR hii2
        refine rg ⟨by (intros;omega),trivial⟩ ?_
        revert hR;refine cd (fun hc5 hR=>?_) fun hc5 hR=>?_
        ·
          refine rg trivial ?_
          exact congrArg C62 hR
        ·
          refine rg ⟨by ( intros;simp only [inR];omega),trivial⟩ ?_
          exact hK2 () hii2 za6 hR
      · obtain rfl:i2=(zbj x0).length:=by have:=of_decide_eq_false hc4;omega
        replace hR:=zbu hR (Nat.lt_irrefl _)
        refine rg trivial ?_
        revert hR;refine lN (fun i v=>True) za6 rfl fun i3 v3 F3 hn3 hI3 hR hK3=>?_
        refine rg trivial ?_
        refine ⟨fun hc6=>?_,fun hc6=>?_⟩
        · have hii3:i3<x0.unions.length:=by have:=of_decide_eq_true hc6;omega
          replace hR:=zbq hR hii3
          refine rg ⟨⟨by trivial,by trivial,by (intros;omega)⟩,trivial⟩ ?_
          revert hR;refine cd (fun hc7 hR=>?_) fun hc7 hR=>?_
          ·
            refine rg trivial ?_
            exact congrArg C62 hR
          ·
            refine rg ⟨by ( intros;simp only [inR];omega),trivial⟩ ?_
            exact hK3 () hii3 za6 hR
        · obtain rfl:i3=x0.unions.length:=by have:=of_decide_eq_false hc6;omega
          replace hR:=zbu hR (Nat.lt_irrefl _)
          refine rg trivial ?_
          exact congrArg C62 hR
 exact Fn.go 49 Tryz.func62 (by kernel_rfl) (by kernel_rfl) (by simp [C62,Frs,FrsL]) (A62 x0) (by kernel_rfl) (aux _ rfl)
def k62 (x0:yc):Cl:=(hres (C62 (za9 x0)),k3 (zm5 x0))
def C35 (R:(List Int)):LV×List (Nat×BC):=(.own 0,[(0,.arr 1 R.length (rowOf (cInt .i64) R))])
def zb4 (x0:yc) (x1:Int):(List Int):=bif (decide (0≤((x0.people.getD x1.toNat default).father))) then (bif (decide (0≤((x0.people.getD x1.toNat default).mother))) then ((([]:List Int)++[(x0.people.getD x1.toNat default).father])++[(x0.people.getD x1.toNat default).mother]) else (([]:List Int)++[(x0.people.getD x1.toNat default).father])) else (bif (decide (0≤((x0.people.getD x1.toNat default).mother))) then (([]:List Int)++[(x0.people.getD x1.toNat default).mother]) else ([]:List Int))
def A35 (x0:yc) (x1:Int):Ann:=let q1:=x0.people.getD x1.toNat default;let q5:=([q1.mother]:List Int);let q4:=decide (0≤(q1.mother));let q3:=(([]:List Int)++[q1.father]);let q2:=(0≤(x1:Int)∧(x1:Int)<((x0.people.length:Nat):Int));.reg 2 [] [(1000,bsC 6 (cInt .i64) ([]:List Int))] [1,2,4,5] [2,6] [] [] [] [0] (r1 1 [1,2,4,5,13] [2,6] [pf q2] [0] (cn (decide (0≤(q1.father))) (.reg 1 [] [(7,bsC 21 (cInt .i64) ([q1.father]:List Int)),(8,ap1 22 (cInt .i64) 8 ([]:List Int) (q1.father))] [1,2,4,5] [2,22] [] [pf q2] [] [0,4,8] (r1 1 [1,2,4,5,29] [2,22] [pf q2] [0] (cn q4 (.reg 1 [] [(7,bsC 37 (cInt .i64) q5),(8,ap1 38 (cInt .i64) 8 q3 (q1.mother))] [4,5] [38] [] [pf q2] [] [0,4,8] (r0 1 [4] [38] (rt [(0,some 38)] (C35 (q3++[q1.mother]))))) (r0 1 [4] [22] (rt [(0,some 22)] (C35 q3)))))) (r1 1 [1,2,4,5,29] [2,6] [pf q2] [0] (cn q4 (.reg 1 [] [(7,bsC 37 (cInt .i64) q5),(8,ap1 38 (cInt .i64) 8 ([]:List Int) (q1.mother))] [4,5] [38] [] [pf q2] [] [0,4,8] (r0 1 [4] [38] (rt [(0,some 38)] (C35 (([]:List Int)++[q1.mother]))))) (r0 1 [4] [6] (rt [(0,some 6)] (C35 ([]:List Int))))))))
theorem zk5 (x:yc) (i:Int):(zb4 x i).length≤2∧∀ k:Nat,k<(zb4 x i).length→0≤(zb4 x i).getD k default∧((zb4 x i).getD k default=(x.people.getD i.toNat default).father∨(zb4 x i).getD k default=(x.people.getD i.toNat default).mother):=by
 unfold zb4
 cases h1:decide (0≤(x.people.getD i.toNat default).father)<;>cases h2:decide (0≤(x.people.getD i.toNat default).mother)<;>simp only [cond_true,cond_false]<;>refine ⟨by simp,fun k hk=>?_⟩
 ·simp at hk
 ·simp at hk;subst hk;have:=of_decide_eq_true h2;simpa using this
 ·simp at hk;subst hk;have:=of_decide_eq_true h1;simpa using this
 ·have:=of_decide_eq_true h1;have:=of_decide_eq_true h2
  simp at hk
  match k,hk with
  | 0,_=>exact ⟨by assumption,.inl rfl⟩
  | 1,_=>exact ⟨by assumption,.inr rfl⟩
theorem zlz (x0:yc) (x1:Int) (hx:x0.people.length≤1048576) (hi:0≤x1∧x1<x0.people.length):FnT Tryz.prog 35 [.agg (zcf false x0),.int .i64 x1] (C35 (zb4 x0 x1)):=by
 have aux:∀ R,zb4 x0 x1=R→slim (C35 R) (A35 x0 x1) []:=by
  intro R hR
  refine rg ⟨trivial,trivial⟩ ?_
  refine rg ⟨by trivial,trivial⟩ ?_
  revert hR;refine cd (fun hc1 hR=>?_) fun hc1 hR=>?_
  ·
    refine rg ⟨by trivial,trivial,by trivial,trivial⟩ ?_
    refine rg ⟨by trivial,trivial⟩ ?_
    revert hR;refine cd (fun hc2 hR=>?_) fun hc2 hR=>?_
    ·
      refine rg ⟨by trivial,trivial,by ((try clear hR);intros;(try simp only [decide_eq_true_eq,decide_eq_false_iff_not,Bool.or_eq_true,Bool.and_eq_true,zbd,zbb,zbc,Bool.not_eq_true',inR] at *);(repeat' apply And.intro)<;>(simp_all [inR];done)),trivial⟩ ?_
      refine rg trivial ?_
      exact congrArg C35 hR
    ·
      refine rg trivial ?_
      exact congrArg C35 hR
  ·
    refine rg ⟨by trivial,trivial⟩ ?_
    revert hR;refine cd (fun hc3 hR=>?_) fun hc3 hR=>?_
    ·
      refine rg ⟨by trivial,trivial,by trivial,trivial⟩ ?_
      refine rg trivial ?_
      exact congrArg C35 hR
    ·
      refine rg trivial ?_
      exact congrArg C35 hR
 exact Fn.go 40 Tryz.func35 (by kernel_rfl) (by kernel_rfl) (by simp [C35,Frs,FrsL,FrsB,rowOf,cInt,cBool,cStr,cSl,zdm,zbg,zbi,zcf]) (A35 x0 x1) (by kernel_rfl) (aux _ rfl)
theorem zhs (x:yc):za9 x=true↔(x.people.length≤40∧x.unions.length≤60)∧(∀ k:Nat,k<x.people.length→zd5 x k=true)∧(∀ k:Nat,k<x.people.length→(zbj x).getD k default≤10)∧∀ k:Nat,k<x.unions.length→zfs x k=true:=by
 simp only [za9,zey,zbd,zeo,zbb,decide_eq_false_iff_not,Int.not_lt,zex,and_true]
 constructor
 ·rintro ⟨⟨h1,h2⟩,h3,h4,h5⟩;exact ⟨⟨om,om⟩,h3,h4,h5⟩
 ·rintro ⟨⟨h1,h2⟩,h3,h4,h5⟩;exact ⟨⟨om,om⟩,h3,h4,h5⟩
theorem zd2 (x:yc) (h:za9 x=true):∀ (k:Nat),k<x.people.length→(x.people.getD k default).father<k∧(x.people.getD k default).mother<k:=fun k hk=>ziu x k (((zhs x).1 h).2.1 k hk)

def C45 (R:Bool):LV×List (Nat×BC):=(.bool R,[])
def zff (x0:List UInt8):Bool:=bif ((decide (((x0.length:Nat):Int)<1))||(decide (12<((x0.length:Nat):Int)))) then false else (loopN (fun i1 (v1:Unit) next=>bif ((decide (((x0.getD i1 0).toNat:Int)<97))||(decide (122<((x0.getD i1 0).toNat:Int)))) then false else (next ())) (fun (v1:Unit)=>true) x0.length 0 ())
def D45b1 (i1:Nat) (v1:Unit):Dl:=⟨[(3,.int .i64 ((i1:Nat):Int))],[]⟩
def A45b1 (x0:List UInt8) (i1:Nat) (v1:Unit):Ann:=let q1:=((x0.getD i1 0).toNat:Int);let q3:=decide (q1<97);let q2:=(0≤(((i1:Nat):Int):Int)∧(((i1:Nat):Int):Int)<((x0.length:Nat):Int));r0 1 [0,2,3,15] [] (cn (decide (((i1:Nat):Int)<((x0.length:Nat):Int))) (.reg 1 [] [] [0,2,3,27] [] [!q3,decide (q1<97)] [pf q2,gt (!q3) (pf q2)] [] [0,1,1,4,1,6] (cn (q3||(decide (122<q1))) (r0 1 [0,2,3] [] (rt [] (C45 false))) (r1 1 [0,2,3] [] [pf (inR .i64 (((i1:Nat):Int)+1))] [0] (.next 0 [] (D45b1 (i1+1) ()))))) (r0 1 [2] [] (rt [] (C45 true))))
def A45 (x0:List UInt8):Ann:=let q1:=((x0.length:Nat):Int);r0 1 [0,2] [] (.reg 1 [] [] [0,2,11] [] [!(decide (q1<1)),decide (q1<1)] [] [] [1,1,6] (cn ((decide (q1<1))||(decide (12<q1))) (r0 1 [0,2] [] (rt [] (C45 false))) (r0 1 [0,2,3] [] (lp (D45b1) [] [] [] (D45b1 0 ()) (A45b1 x0)))))
theorem zp5 (x0:List UInt8) (hx:x0.length≤1048576):FnT Tryz.prog 45 [.str x0] (C45 (zff x0)):=by
 have aux:∀ R,zff x0=R→slim (C45 R) (A45 x0) []:=by
  intro R hR
  refine rg trivial ?_
  refine rg trivial ?_
  revert hR;refine cd (fun hc1 hR=>?_) fun hc1 hR=>?_
  ·
    refine rg trivial ?_
    exact congrArg C45 hR
  ·
    refine rg trivial ?_
    revert hR;refine lN (fun i v=>True) za6 rfl fun i1 v1 F1 hn1 hI1 hR hK1=>?_
    refine rg trivial ?_
    refine ⟨fun hc2=>?_,fun hc2=>?_⟩
    · have hii1:i1<x0.length:=by have:=of_decide_eq_true hc2;omega
      replace hR:=zbq hR hii1
      refine rg ⟨by (intros;omega),by (intros;omega),trivial⟩ ?_
      revert hR;refine cd (fun hc3 hR=>?_) fun hc3 hR=>?_
      ·
        refine rg trivial ?_
        exact congrArg C45 hR
      ·
        refine rg ⟨by ( intros;simp only [inR];omega),trivial⟩ ?_
        exact hK1 () hii1 za6 hR
    · obtain rfl:i1=x0.length:=by have:=of_decide_eq_false hc2;omega
      replace hR:=zbu hR (Nat.lt_irrefl _)
      refine rg trivial ?_
      exact congrArg C45 hR
 exact Fn.go 28 Tryz.func45 (by kernel_rfl) (by kernel_rfl) (by simp [C45,Frs,FrsL]) (A45 x0) (by kernel_rfl) (aux _ rfl)
def k45 (x0:List UInt8):Cl:=(hres (C45 (zff x0)),k1 (zp5 x0))
def C46 (R:Bool):LV×List (Nat×BC):=(.bool R,[])
def zc6 (x0:List ya) (x1:Int) (x2:Int) (x3:Int) (x4:Int):Bool:=bif (decide (x2=(-1))) then true else (bif ((decide (x2<0))||(decide (x1≤x2))) then false else (((decide (((x0.getD x2.toNat default).sex)=x3))&&(decide (((x0.getD x2.toNat default).born)<((x0.getD x1.toNat default).born))))&&((decide (((x0.getD x2.toNat default).died)=(-1)))||(decide (((x0.getD x1.toNat default).born)≤(IntKind.wrap .i64 (((x0.getD x2.toNat default).died)+x4)))))))
def A46 (x0:List ya) (x1:Int) (x2:Int) (x3:Int) (x4:Int):Ann:=let q2:=x0.getD x2.toNat default;let q5:=(x0.getD x1.toNat default).born;let q6:=(q2.sex)=x3;let q3:=decide ((q2.died)=(-1));let q4:=(pf (0≤(x1:Int)∧(x1:Int)<((x0.length:Nat):Int)));let q1:=(decide q6)&&(decide ((q2.born)<q5));r0 1 [0,1,2,3,4,10] [] (r0 1 [0,1,2,3,4,10,13] [] (cn (decide (x2=(-1))) (r0 1 [0,1,2,3,4,10] [] (rt [] (C46 true))) (.reg 1 [] [] [0,1,2,3,4,10,20] [] [!(decide (x2<0)),decide (x2<0)] [] [] [1,1,6] (cn ((decide (x2<0))||(decide (x1≤x2))) (r0 1 [0,1,2,3,4,10] [] (rt [] (C46 false))) (.reg 2 [(1027,.wrap)] [] [10] [] [decide q6,(decide q6)&&(decide ((q2.born)<q5)),q1&&(!q3)] [pf (0≤(x2:Int)∧(x2:Int)<((x0.length:Nat):Int)),gt (decide q6) q4,gt (q1&&(!q3)) q4,gt q1 (gf q3 (pf ((q1&&(!q3))=true)))] [] [0,1,1,1,4,1,1,1,1,1,5,5,5,9,9,8,9,9,9,9,9,9,9,5,12,5] (rt [] (C46 (q1&&(q3||(decide (q5≤(IntKind.wrap .i64 ((q2.died)+x4)))))))))))))
theorem zky (x0:List ya) (x1:Int) (x2:Int) (x3:Int) (x4:Int) (hx:x0.length≤1048576) (hi:0≤x1∧x1<x0.length):FnT Tryz.prog 46 [.ro false 6 x0.length (rowOf (zbg false) x0),.int .i64 x1,.int .i64 x2,.int .i64 x3,.int .i64 x4] (C46 (zc6 x0 x1 x2 x3 x4)):=by
 have aux:∀ R,zc6 x0 x1 x2 x3 x4=R→slim (C46 R) (A46 x0 x1 x2 x3 x4) []:=by
  intro R hR
  refine rg trivial ?_
  refine rg trivial ?_
  revert hR;refine cd (fun hc1 hR=>?_) fun hc1 hR=>?_
  ·
    refine rg trivial ?_
    exact congrArg C46 hR
  ·
    refine rg trivial ?_
    revert hR;refine cd (fun hc2 hR=>?_) fun hc2 hR=>?_
    ·
      refine rg trivial ?_
      exact congrArg C46 hR
    ·
      refine rg ⟨by ((try clear hR);intros;(try simp only [decide_eq_true_eq,decide_eq_false_iff_not,Bool.or_eq_true,Bool.and_eq_true,zbd,zbb,zbc,Bool.not_eq_true',inR] at *);(repeat' apply And.intro)<;>(intros;omega)),by (intros;omega),by (intros;omega),by ((try clear hR);intros;(try simp only [decide_eq_true_eq,decide_eq_false_iff_not,Bool.or_eq_true,Bool.and_eq_true,zbd,zbb,zbc,Bool.not_eq_true',inR] at *);(repeat' apply And.intro)<;>(intros;omega)),trivial⟩ ?_
      exact congrArg C46 hR
 exact Fn.go 56 Tryz.func46 (by kernel_rfl) (by kernel_rfl) (by simp [C46,Frs,FrsL]) (A46 x0 x1 x2 x3 x4) (by kernel_rfl) (aux _ rfl)
def k46 (x0:List ya) (x1:Int) (x2:Int) (x3:Int) (x4:Int):Cl:=(hres (C46 (zc6 x0 x1 x2 x3 x4)),k2 (zky x0 x1 x2 x3 x4))
def C47 (R:(List Int)):LV×List (Nat×BC):=(.own 0,[(0,.arr 1 R.length (rowOf (cInt .i64) R))])
def zg7 (x0:List ya):(List Int):=loopN (fun i1 (v1:(List Int)) nx1=>loopN (fun i2 (v2:(List Int)) next=>bif (decide (0≤([(x0.getD i1 default).father,(x0.getD i1 default).mother].getD i2 default))) then (next (v2.set i1 (Max.max (v2.getD i1 default) ((v2.getD (([(x0.getD i1 default).father,(x0.getD i1 default).mother].getD i2 default).toNat) default)+1)))) else (next v2)) (fun (v2:(List Int))=>nx1 v2) 2 0 v1) (fun (v1:(List Int))=>v1) x0.length 0 (List.replicate x0.length (default:Int))
def D47b1 (x0:List ya) (i1:Nat) (v1:(List Int)):Dl:=⟨[(13,.int .i64 ((i1:Nat):Int)),(3,.own 20003)],[(20003,.arr 1 x0.length (rowOf (cInt .i64) v1))]⟩
def D47b2 (x0:List ya) (i2:Nat) (v2:(List Int)):Dl:=⟨[(24,.int .i64 ((i2:Nat):Int)),(3,.own 30003)],[(30003,.arr 1 x0.length (rowOf (cInt .i64) v2))]⟩
def A47b2 (x0:List ya) (i1:Nat) (i2:Nat) (v2:(List Int)):Ann:=let q3:=((i2:Nat):Int);let q5:=((i1:Nat):Int);let q6:=((x0.length:Nat):Int);let q1:=([(x0.getD i1 default).father,(x0.getD i1 default).mother].getD i2 default);let q2:=(v2.getD (q1.toNat) default)+1;let q4:=Max.max (v2.getD i1 default) q2;r0 1 [2,3,4,11,12,13,22,23,24,25] [22,30003] (cn (decide (q3<2)) (r1 2 [2,3,4,7,11,12,13,22,23,24,29] [22,30003] [pf (0≤(q3:Int)∧(q3:Int)<((2:Nat):Int))] [0] (cn (decide (0≤q1)) (.reg 1 [] [(13,stC 30003 (cInt .i64) x0.length v2 i1 q4)] [2,3,4,11,12,13,22,23,24] [22,30003] [] [pf (0≤(q5:Int)∧(q5:Int)<q6),pf (0≤(q1:Int)∧(q1:Int)<q6),pf (inR .i64 q2)] [] [0,4,8,0,12] (r1 1 [2,3,4,11,12,13,22,23,24] [22,30003] [pf (inR .i64 (q3+1))] [0] (.next 0 [(30003,some 30003)] (D47b2 x0 (i2+1) (v2.set i1 q4))))) (r1 1 [2,3,4,11,12,13,22,23,24] [22,30003] [pf (inR .i64 (q3+1))] [0] (.next 0 [(30003,some 30003)] (D47b2 x0 (i2+1) v2))))) (r1 1 [2,3,11,12,13] [30003] [pf (inR .i64 (q5+1))] [0] (.next 1 [(20003,some 30003)] (D47b1 x0 (i1+1) v2))))
def A47b1 (x0:List ya) (i1:Nat) (v1:(List Int)):Ann:=let q1:=((i1:Nat):Int);let q2:=((x0.length:Nat):Int);r0 1 [2,3,11,12,13,14] [20003] (cn (decide (q1<q2)) (.reg 2 [] [(1004,bsC 22 (cInt .i64) ([(x0.getD i1 default).father,(x0.getD i1 default).mother]:List Int))] [2,3,4,11,12,13,22,23,24] [22,20003] [] [pf (0≤(q1:Int)∧(q1:Int)<q2)] [] [0,4] (lp (D47b2 x0) [] [20003] [(30003,some 20003)] (D47b2 x0 0 v1) (A47b2 x0 i1))) (r0 1 [2] [20003] (.co false 20003 v1.length (rowOf (cInt .i64) v1) [lnP (rowOf (cInt .i64) v1) x0.length v1.length] [] 0 (rt [(0,some 20003)] (C47 v1)))))
def A47 (x0:List ya):Ann:=let q1:=((x0.length:Nat):Int);.reg 2 [] [(1002,msC 10 (cInt .i64) 8 q1 q1 x0.length (default:Int) (rfl))] [0,2,3] [10] [] [] [] [0] (r0 1 [2,3,11,12,13] [10] (lp (D47b1 x0) [] [10] [(20003,some 10)] (D47b1 x0 0 (List.replicate x0.length (default:Int))) (A47b1 x0)))
theorem zyb (x:List ya):(zg7 x).length=x.length:=by
 unfold zg7
 refine zbx (fun i (v:List Int)=>v.length=x.length) (fun (r:List Int)=>r.length=x.length) zas (fun i v next _ hv hn=>?_) (fun v hv=>hv)
 refine zbx (fun i (v:List Int)=>v.length=x.length) (fun (r:List Int)=>r.length=x.length) hv (fun i v next _ hv hn=>?_) (fun v hv=>hn _ hv)
 exact zbe (p:=fun (r:List Int)=>r.length=x.length) (fun _=>hn _ (by simp [hv])) (fun _=>hn _ hv)
theorem zp4 (x0:List ya) (hx:x0.length≤1048576) (hp:∀ (k:Nat),k<x0.length→(x0.getD k default).father<k∧(x0.getD k default).mother<k):FnT Tryz.prog 47 [.ro false 6 x0.length (rowOf (zbg false) x0)] (C47 (zg7 x0)):=by
 have aux:∀ R,zg7 x0=R→slim (C47 R) (A47 x0) []:=by
  intro R hR
  refine rg ⟨by (intros;omega),trivial⟩ ?_
  refine rg trivial ?_
  revert hR;refine lN (fun i v=>Rg v x0.length (fun j v=>0≤v∧v≤j)) (by (exact Rg.rep (fun k hk=>show 0≤(0:Int)∧(0:Int)≤k from ⟨om,om⟩))) rfl fun i1 v1 F1 hn1 hI1 hR hK1=>?_
  refine rg trivial ?_
  refine ⟨fun hc1=>?_,fun hc1=>?_⟩
  ·have hii1:i1<x0.length:=by have:=of_decide_eq_true hc1;omega
   replace hR:=zbq hR hii1
   refine rg ⟨by (intros;omega),trivial,trivial⟩ ?_
   revert hR;refine lN (fun i v=>Rg v x0.length (fun j v=>0≤v∧v≤j)) za6 rfl fun i2 v2 F2 hn2 hI2 hR hK2=>?_
   refine rg trivial ?_
   refine ⟨fun hc2=>?_,fun hc2=>?_⟩
   ·have hii2:i2<2:=by have:=of_decide_eq_true hc2;omega
    replace hR:=zbq hR hii2
    refine rg ⟨by (intros;omega),trivial⟩ ?_
    revert hR;refine cd (fun hc3 hR=>?_) fun hc3 hR=>?_
    ·
      refine rg ⟨by (intros;omega),by ((try clear hR hK1 hK2);intros;(try simp only [decide_eq_true_eq,decide_eq_false_iff_not,Bool.or_eq_true,Bool.and_eq_true,zbd,zbb,zbc,Bool.not_eq_true',inR] at *);(repeat' apply And.intro)<;>(first | (intros;omega) | (have h1:=hp i1 hii1;have h2:=zoh (p:=fun q=>q<(i1:Int)) (d:=default) h1.1 h1.2 hii2;have:=hI2.len;omega))),by ((try clear hR hK1 hK2);intros;(try simp only [decide_eq_true_eq,decide_eq_false_iff_not,Bool.or_eq_true,Bool.and_eq_true,zbd,zbb,zbc,Bool.not_eq_true',inR] at *);(repeat' apply And.intro)<;>(have h1:=hp i1 hii1;have h2:=zoh (p:=fun q=>q<(i1:Int)) (d:=default) h1.1 h1.2 hii2;have:=hI2.get _ (show ([(x0.getD i1 default).father,(x0.getD i1 default).mother].getD i2 default).toNat<x0.length by omega);omega)),by (have:=hI2.len;omega),trivial⟩ ?_
      refine rg ⟨by ( intros;simp only [inR];omega),trivial⟩ ?_
      exact hK2 (v2.set i1 (Max.max (v2.getD i1 default) ((v2.getD (([(x0.getD i1 default).father,(x0.getD i1 default).mother].getD i2 default).toNat) default)+1))) hii2 (by ((try clear hR hK1 hK2);intros;(try simp only [decide_eq_true_eq,decide_eq_false_iff_not,Bool.or_eq_true,Bool.and_eq_true,zbd,zbb,zbc,Bool.not_eq_true',inR] at *);(repeat' apply And.intro)<;>(have h1:=hp i1 hii1;have h2:=zoh (p:=fun q=>q<(i1:Int)) (d:=default) h1.1 h1.2 hii2;have h3:=hI2.get _ (show ([(x0.getD i1 default).father,(x0.getD i1 default).mother].getD i2 default).toNat<x0.length by omega);have h4:=hI2.get i1 hii1;exact Rg.set hI2 (fun _=>by omega)))) hR
    ·
      refine rg ⟨by ( intros;simp only [inR];omega),trivial⟩ ?_
      exact hK2 v2 hii2 za6 hR
   ·obtain rfl:i2=2:=by have:=of_decide_eq_false hc2;omega
    replace hR:=zbu hR (Nat.lt_irrefl _)
    refine rg ⟨by ( intros;simp only [inR];omega),trivial⟩ ?_
    exact hK1 v2 hii1 za6 hR
  ·obtain rfl:i1=x0.length:=by have:=of_decide_eq_false hc1;omega
   replace hR:=zbu hR (Nat.lt_irrefl _)
   refine rg trivial ?_
   refine og (by (have:=hI1.len;omega)) ?_
   exact congrArg C47 hR
 exact Fn.go 46 Tryz.func47 (by kernel_rfl) (by kernel_rfl) (by simp [C47,Frs,FrsL,FrsB,rowOf,cInt,cBool,cStr,cSl,zdm,zbg,zbi,zcf]) (A47 x0) (by kernel_rfl) (aux _ rfl)
def k47 (x0:List ya):Cl:=(hres (C47 (zg7 x0)),k2 (zp4 x0))
def C48 (R:Bool):LV×List (Nat×BC):=(.bool R,[])
def zfl (x0:yc) (x1:Int):Bool:=bif ((((decide (((x0.unions.getD x1.toNat default).man)<0))||(decide (((x0.people.length:Nat):Int)≤((x0.unions.getD x1.toNat default).man))))||(decide (((x0.unions.getD x1.toNat default).woman)<0)))||(decide (((x0.people.length:Nat):Int)≤((x0.unions.getD x1.toNat default).woman)))) then false else (bif ((((((!decide (((x0.people.getD (((x0.unions.getD x1.toNat default).man).toNat) default).sex)=1))||(!decide (((x0.people.getD (((x0.unions.getD x1.toNat default).woman).toNat) default).sex)=2)))||(decide (9999<((x0.unions.getD x1.toNat default).from0))))||(decide (((x0.unions.getD x1.toNat default).from0)<((x0.people.getD (((x0.unions.getD x1.toNat default).man).toNat) default).born))))||(decide (((x0.unions.getD x1.toNat default).from0)<((x0.people.getD (((x0.unions.getD x1.toNat default).woman).toNat) default).born))))||((!decide (((x0.unions.getD x1.toNat default).to)=(-1)))&&((decide (((x0.unions.getD x1.toNat default).to)<((x0.unions.getD x1.toNat default).from0)))||(decide (9999<((x0.unions.getD x1.toNat default).to)))))) then false else (loopN (fun i1 (v1:Unit) next=>bif ((!decide ((([(x0.people.getD (((x0.unions.getD x1.toNat default).man).toNat) default),(x0.people.getD (((x0.unions.getD x1.toNat default).woman).toNat) default)].getD i1 default).died)=(-1)))&&((decide ((([(x0.people.getD (((x0.unions.getD x1.toNat default).man).toNat) default),(x0.people.getD (((x0.unions.getD x1.toNat default).woman).toNat) default)].getD i1 default).died)<((x0.unions.getD x1.toNat default).from0)))||((!decide (((x0.unions.getD x1.toNat default).to)=(-1)))&&(decide ((([(x0.people.getD (((x0.unions.getD x1.toNat default).man).toNat) default),(x0.people.getD (((x0.unions.getD x1.toNat default).woman).toNat) default)].getD i1 default).died)<((x0.unions.getD x1.toNat default).to)))))) then false else (next ())) (fun (v1:Unit)=>loopN (fun i2 (v2:Unit) next=>bif ((decide (((x0.unions.getD (0+i2) default).man)=((x0.unions.getD x1.toNat default).man)))&&(decide (((x0.unions.getD (0+i2) default).woman)=((x0.unions.getD x1.toNat default).woman)))) then false else (next ())) (fun (v2:Unit)=>true) (x1.toNat - 0) 0 ()) 2 0 ()))
def D48b1 (i1:Nat) (v1:Unit):Dl:=⟨[(101,.int .i64 ((i1:Nat):Int))],[]⟩
def D48b2 (i2:Nat) (v2:Unit):Dl:=⟨[(133,.int .i64 ((i2:Nat):Int))],[]⟩
def A48b2 (x0:yc) (x1:Int) (i2:Nat) (v2:Unit):Ann:=let q2:=((i2:Nat):Int);let q3:=((x1.toNat - 0:Nat):Int);let q1:=((x0.unions.getD (0+i2) default).man)=((x0.unions.getD x1.toNat default).man);r0 1 [4,5,131,132,133,134] [5] (cn (decide (q2<q3)) (.reg 2 [] [] [4,5,131,132,133,148] [5] [decide q1] [pf (0≤(q2:Int)∧(q2:Int)<q3)] [] [0,1,1,1,1,1] (cn ((decide q1)&&(decide (((x0.unions.getD (0+i2) default).woman)=((x0.unions.getD x1.toNat default).woman)))) (r0 1 [4,5,131,132,133] [5] (rt [] (C48 false))) (r1 1 [4,5,131,132,133] [5] [pf (inR .i64 (q2+1))] [0] (.next 0 [] (D48b2 (i2+1) ()))))) (r0 1 [4] [] (rt [] (C48 true))))
def A48b1 (x0:yc) (x1:Int) (i1:Nat) (v1:Unit):Ann:=let q6:=((i1:Nat):Int);let q2:=x0.unions.getD x1.toNat default;let q4:=!decide ((q2.to)=(-1));let q1:=(([(x0.people.getD ((q2.man).toNat) default),(x0.people.getD ((q2.woman).toNat) default)].getD i1 default).died);let q7:=!decide (q1=(-1));let q5:=decide (q1<(q2.from0));let q3:=q7&&(!q5);r0 1 [1,2,4,5,99,100,101,102] [2,5,99] (cn (decide (q6<2)) (.reg 2 [] [] [1,2,4,5,99,100,101,126] [2,5,99] [!decide (q1=(-1)),q7&&(!q5),q3&&q4] [pf (0≤(q6:Int)∧(q6:Int)<((2:Nat):Int)),gt q3 (gt q4 (pf ((q3&&q4)=true))),gt q7 (gf q5 (pf (q3=true)))] [] [0,1,1,1,1,1,5,5,5,9,9,9,9,5,4,1,8,1] (cn (q7&&(q5||(q4&&(decide (q1<(q2.to)))))) (r0 1 [1,2,4,5,99,100,101] [2,5,99] (rt [] (C48 false))) (r1 1 [1,2,4,5,99,100,101] [2,5,99] [pf (inR .i64 (q6+1))] [0] (.next 0 [] (D48b1 (i1+1) ()))))) (r1 1 [4,5,131,132,133] [5] [pf (0≤(0:Int)∧(0:Int)≤x1∧(x1:Int)≤((x0.unions.length:Nat):Int))] [0] (lp (D48b2) [] [] [] (D48b2 0 ()) (A48b2 x0 x1))))
def A48 (x0:yc) (x1:Int):Ann:=let q8:=((x0.people.length:Nat):Int);let q2:=x0.unions.getD x1.toNat default;let q14:=(q2.man)<0;let q12:=decide ((q2.woman)<0);let q6:=!decide ((q2.to)=(-1));let q7:=decide (9999<(q2.from0));let q5:=x0.people.getD ((q2.man).toNat) default;let q10:=x0.people.getD ((q2.woman).toNat) default;let q15:=(q5.sex)=1;let q9:=decide ((q2.to)<(q2.from0));let q11:=decide ((q2.from0)<(q5.born));let q4:=(decide q14)||(decide (q8≤(q2.man)));let q3:=(!decide q15)||(!decide ((q10.sex)=2));let q16:=q3||q7;let q1:=(q16||q11)||(decide ((q2.from0)<(q10.born)));let q13:=(!q1)&&q6;r1 2 [1,2,4,5] [2,5] [pf (0≤(x1:Int)∧(x1:Int)<((x0.unions.length:Nat):Int))] [0] (.reg 1 [] [] [1,2,4,5,40] [2,5] [!(decide q14),decide q14,!q4,(decide q14)||(decide (q8≤(q2.man))),!(q4||q12),q4||q12] [] [] [1,1,1,1,1,6,9,9,14,17,17,17,17,17,22] (cn ((q4||q12)||(decide (q8≤(q2.woman)))) (r0 1 [1,2,4,5] [2,5] (rt [] (C48 false))) (r1 1 [1,2,4,5,6,7] [2,5,6,7] [pf (0≤(q2.man:Int)∧(q2.man:Int)<q8),pf (0≤(q2.woman:Int)∧(q2.woman:Int)<q8)] [0,4] (.reg 1 [] [] [1,2,4,5,6,7,96] [2,5,6,7] [!(!decide q15),!decide q15,!q3,(!decide q15)||(!decide ((q10.sex)=2)),!q16,q3||q7,!(q16||q11),q16||q11,!q1,(!q1)&&q6,q13&&(!q9),(q16||q11)||(decide ((q2.from0)<(q10.born)))] [gt q13 (gf q9 (pf ((q13&&(!q9))=true))),gt (!q1) (gt q6 (pf (q13=true)))] [] [1,1,6,9,9,14,17,17,17,17,22,25,25,25,25,30,33,33,33,37,37,37,37,37,41,41,37,0,33,4,46] (cn (q1||(q6&&(q9||(decide (9999<(q2.to)))))) (r0 1 [1,2,4,5,6,7] [2,5,6,7] (rt [] (C48 false))) (.reg 1 [] [(2,bsC 99 (zbg true) ([q5,q10]:List ya))] [1,2,4,5,99,100,101] [2,5,99] [] [] [] [0] (lp (D48b1) [] [] [] (D48b1 0 ()) (A48b1 x0 x1))))))))
theorem zl1 (x0:yc) (x1:Int) (hx:x0.people.length≤1048576) (hu:x0.unions.length≤1048576) (hi:0≤x1∧x1<x0.unions.length):FnT Tryz.prog 48 [.agg (zcf false x0),.int .i64 x1] (C48 (zfl x0 x1)):=by
 have aux:∀ R,zfl x0 x1=R→slim (C48 R) (A48 x0 x1) []:=by
  intro R hR
  refine rg ⟨by trivial,trivial⟩ ?_
  refine rg trivial ?_
  revert hR;refine cd (fun hc1 hR=>?_) fun hc1 hR=>?_
  ·
    refine rg trivial ?_
    exact congrArg C48 hR
  ·
    refine rg ⟨by ((try clear hR);intros;(try simp only [decide_eq_true_eq,decide_eq_false_iff_not,Bool.or_eq_true,Bool.and_eq_true,zbd,zbb,zbc,Bool.not_eq_true',inR] at *);(repeat' apply And.intro)<;>(intros;omega)),by ((try clear hR);intros;(try simp only [decide_eq_true_eq,decide_eq_false_iff_not,Bool.or_eq_true,Bool.and_eq_true,zbd,zbb,zbc,Bool.not_eq_true',inR] at *);(repeat' apply And.intro)<;>(intros;omega)),trivial⟩ ?_
    refine rg ⟨by ((try clear hR);intros;(try simp only [decide_eq_true_eq,decide_eq_false_iff_not,Bool.or_eq_true,Bool.and_eq_true,zbd,zbb,zbc,Bool.not_eq_true',inR] at *);(repeat' apply And.intro)<;>(intros;omega)),by ((try clear hR);intros;(try simp only [decide_eq_true_eq,decide_eq_false_iff_not,Bool.or_eq_true,Bool.and_eq_true,zbd,zbb,zbc,Bool.not_eq_true',inR] at *);(repeat' apply And.intro)<;>(intros;omega)),trivial⟩ ?_
    revert hR;refine cd (fun hc2 hR=>?_) fun hc2 hR=>?_
    ·
      refine rg trivial ?_
      exact congrArg C48 hR
    ·
      refine rg ⟨trivial,trivial⟩ ?_
      revert hR;refine lN (fun i v=>True) za6 rfl fun i1 v1 F1 hn1 hI1 hR hK1=>?_
      refine rg trivial ?_
      refine ⟨fun hc3=>?_,fun hc3=>?_⟩
      · have hii1:i1<2:=by have:=of_decide_eq_true hc3;omega
        replace hR:=zbq hR hii1
        refine rg ⟨by (intros;omega),by ((try clear hR hK1);intros;(try simp only [decide_eq_true_eq,decide_eq_false_iff_not,Bool.or_eq_true,Bool.and_eq_true,zbd,zbb,zbc,Bool.not_eq_true',inR] at *);(repeat' apply And.intro)<;>(intros;omega)),by ((try clear hR hK1);intros;(try simp only [decide_eq_true_eq,decide_eq_false_iff_not,Bool.or_eq_true,Bool.and_eq_true,zbd,zbb,zbc,Bool.not_eq_true',inR] at *);(repeat' apply And.intro)<;>(intros;omega)),trivial⟩ ?_
        revert hR;refine cd (fun hc4 hR=>?_) fun hc4 hR=>?_
        ·
          refine rg trivial ?_
          exact congrArg C48 hR
        ·
          refine rg ⟨by ( intros;simp only [inR];omega),trivial⟩ ?_
          exact hK1 () hii1 za6 hR
      · obtain rfl:i1=2:=by have:=of_decide_eq_false hc3;omega
        replace hR:=zbu hR (Nat.lt_irrefl _)
        refine rg ⟨by (intros;omega),trivial⟩ ?_
        revert hR;refine lN (fun i v=>True) za6 rfl fun i2 v2 F2 hn2 hI2 hR hK2=>?_
        refine rg trivial ?_
        refine ⟨fun hc5=>?_,fun hc5=>?_⟩
        · have hii2:i2<x1.toNat - 0:=by have:=of_decide_eq_true hc5;omega
          replace hR:=zbq hR hii2
          refine rg ⟨by (intros;omega),trivial⟩ ?_
          revert hR;refine cd (fun hc6 hR=>?_) fun hc6 hR=>?_
          ·
            refine rg trivial ?_
            exact congrArg C48 hR
          ·
            refine rg ⟨by ( intros;simp only [inR];omega),trivial⟩ ?_
            exact hK2 () hii2 za6 hR
        · obtain rfl:i2=x1.toNat - 0:=by have:=of_decide_eq_false hc5;omega
          replace hR:=zbu hR (Nat.lt_irrefl _)
          refine rg trivial ?_
          exact congrArg C48 hR
 exact Fn.go 150 Tryz.func48 (by kernel_rfl) (by kernel_rfl) (by simp [C48,Frs,FrsL]) (A48 x0 x1) (by kernel_rfl) (aux _ rfl)
def k48 (x0:yc) (x1:Int):Cl:=(hres (C48 (zfl x0 x1)),k3 (zl1 x0 x1))
end Go.Proofs.YtlinnkjieghmhaaGreatDoor
