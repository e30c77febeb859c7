import Derived.Test.YtepefimocflfkaaM185
set_option maxHeartbeats 4000000
set_option linter.unusedSimpArgs false
set_option linter.unusedVariables false
namespace Go.Proofs.Ytepefimocflfkaa
open Go Go.Lite Go.Proofs
def C45 (R:Family):LV×List (Nat×BC):=(.agg [.own 0,.own 1],[(0,.arr 6 R.people.length (rowOf (cPerson true) R.people)),(1,.arr 4 R.unions.length (rowOf (cUnion true) R.unions))])
def l11Sorted (x0:Family):Family:=loopN (fun i1 (v1:(List Int)) next=>next (v1++[(x0.people.getD i1 default).born])) (fun (v1:(List Int))=>loopN (fun i2 (v2:(List Int)) next=>next (v2++[((((specPermute x0 (l11Order v1)).1).unions).getD i2 default).from0])) (fun (v2:(List Int))=>loopN (fun i3 (v3:(List Union)) next=>next (v3++[((((specPermute x0 (l11Order v1)).1).unions).getD (((l11Order v2).getD i3 default).toNat) default)])) (fun (v3:(List Union))=>(Family.mk (((specPermute x0 (l11Order v1)).1).people) v3)) ((l11Order v2).length) 0 ([]:List Union)) ((((specPermute x0 (l11Order v1)).1).unions).length) 0 ([]:List Int)) x0.people.length 0 ([]:List Int)
def D45b1 (x0:Family) (i1:Nat) (v1:(List Int)):Dl:=⟨[(18,.int .i64 ((i1:Nat):Int)),(3,.own 20003)],[(20003,.arr 1 v1.length (rowOf (cInt .i64) v1))]⟩
def D45b2 (x0:Family) (i1:Nat) (v1:(List Int)) (i2:Nat) (v2:(List Int)):Dl:=⟨[(39,.int .i64 ((i2:Nat):Int)),(8,.own 20008)],[(20008,.arr 1 v2.length (rowOf (cInt .i64) v2))]⟩
def D45b3 (x0:Family) (i1:Nat) (v1:(List Int)) (i2:Nat) (v2:(List Int)) (i3:Nat) (v3:(List Union)):Dl:=⟨[(55,.int .i64 ((i3:Nat):Int))],[(31101,.arr 4 v3.length (rowOf (cUnion true) v3)),(11,.var [.own 1032,.own 31101])]⟩
def A45b3 (x0:Family) (i1:Nat) (v1:(List Int)) (i2:Nat) (v2:(List Int)) (i3:Nat) (v3:(List Union)):Ann:=r0 1 [2,6,11,53,54,55,56] [2,6,11,1032,1053,2032,31101] (cn (decide (((i3:Nat):Int)<(((l11Order v2).length:Nat):Int))) (r1 1 [2,6,11,13,53,54,55] [2,6,11,1032,1053,2032,31101] [pf (0≤(((i3:Nat):Int):Int)∧(((i3:Nat):Int):Int)<(((l11Order v2).length:Nat):Int))] [0] (.reg 1 [] [(7,bsC 66 (cUnion true) ([((((specPermute x0 (l11Order v1)).1).unions).getD (((l11Order v2).getD i3 default).toNat) default)]:List Union)),(8,ap1 67 (cUnion true) 32 v3 ((((specPermute x0 (l11Order v1)).1).unions).getD (((l11Order v2).getD i3 default).toNat) default))] [2,6,11,53,54,55] [2,6,11,67,1032,1053,2032] [] [pf (0≤(((l11Order v2).getD i3 default):Int)∧(((l11Order v2).getD i3 default):Int)<(((((specPermute x0 (l11Order v1)).1).unions).length:Nat):Int))] [] [0,4,8] (r1 1 [2,6,11,53,54,55] [2,6,11,67,1032,1053,2032] [pf (inR .i64 (((i3:Nat):Int)+1))] [0] (.next 0 [(31101,some 67)] (D45b3 x0 i1 v1 i2 v2 (i3+1) (v3++[((((specPermute x0 (l11Order v1)).1).unions).getD (((l11Order v2).getD i3 default).toNat) default)])))))) (r0 1 [2] [2,1032,31101] (rt [(0,some 1032),(1,some 31101)] (C45 (Family.mk (((specPermute x0 (l11Order v1)).1).people) v3)))))
def A45b2 (x0:Family) (i1:Nat) (v1:(List Int)) (i2:Nat) (v2:(List Int)):Ann:=r0 1 [2,6,8,37,38,39,40] [2,6,1032,2032,20008] (cn (decide (((i2:Nat):Int)<(((((specPermute x0 (l11Order v1)).1).unions).length:Nat):Int))) (r1 1 [2,6,8,10,37,38,39] [2,6,10,1032,2032,20008] [pf (0≤(((i2:Nat):Int):Int)∧(((i2:Nat):Int):Int)<(((((specPermute x0 (l11Order v1)).1).unions).length:Nat):Int))] [0] (.reg 1 [] [(3,bsC 46 (cInt .i64) ([((((specPermute x0 (l11Order v1)).1).unions).getD i2 default).from0]:List Int)),(4,ap1 47 (cInt .i64) 8 v2 (((((specPermute x0 (l11Order v1)).1).unions).getD i2 default).from0))] [2,6,8,37,38,39] [2,6,47,1032,2032] [] [] [] [0,4] (r1 1 [2,6,8,37,38,39] [2,6,47,1032,2032] [pf (inR .i64 (((i2:Nat):Int)+1))] [0] (.next 0 [(20008,some 47)] (D45b2 x0 i1 v1 (i2+1) (v2++[((((specPermute x0 (l11Order v1)).1).unions).getD i2 default).from0])))))) (r0 1 [2,6,8,11] [2,6,11,1032,2032,20008] (.reg 1 [] [(1,k91 v2)] [2,6,11,53,54,55] [2,6,11,1032,1053,2032] [] [] [] [0] (lp (D45b3 x0 i1 v1 i2 v2) [] [] [(31101,none)] (D45b3 x0 i1 v1 i2 v2 0 ([]:List Union)) (A45b3 x0 i1 v1 i2 v2)))))
def A45b1 (x0:Family) (i1:Nat) (v1:(List Int)):Ann:=r0 1 [1,2,3,16,17,18,19] [1,2,20003] (cn (decide (((i1:Nat):Int)<((x0.people.length:Nat):Int))) (r1 1 [1,2,3,5,16,17,18] [1,2,5,20003] [pf (0≤(((i1:Nat):Int):Int)∧(((i1:Nat):Int):Int)<((x0.people.length:Nat):Int))] [0] (.reg 1 [] [(3,bsC 25 (cInt .i64) ([(x0.people.getD i1 default).born]:List Int)),(4,ap1 26 (cInt .i64) 8 v1 ((x0.people.getD i1 default).born))] [1,2,3,16,17,18] [1,2,26] [] [] [] [0,4] (r1 1 [1,2,3,16,17,18] [1,2,26] [pf (inR .i64 (((i1:Nat):Int)+1))] [0] (.next 0 [(20003,some 26)] (D45b1 x0 (i1+1) (v1++[(x0.people.getD i1 default).born])))))) (.reg 2 [] [(2,k91 v1),(3,k90 x0 (l11Order v1)),(1000,bsC 35 (cInt .i64) ([]:List Int))] [2,6,8] [2,6,35,1032,2032] [] [] [] [0,4,8] (r0 1 [2,6,8,37,38,39] [2,6,35,1032,2032] (lp (D45b2 x0 i1 v1) [] [35] [(20008,some 35)] (D45b2 x0 i1 v1 0 ([]:List Int)) (A45b2 x0 i1 v1)))))
def A45 (x0:Family):Ann:=.reg 2 [] [(1000,bsC 14 (cInt .i64) ([]:List Int))] [1,2,3] [1,2,14] [] [] [] [0] (r0 1 [1,2,3,16,17,18] [1,2,14] (lp (D45b1 x0) [] [14] [(20003,some 14)] (D45b1 x0 0 ([]:List Int)) (A45b1 x0)))
theorem ok_spec_l11Sorted (x0:Family) (hx:x0.people.length≤1048576) (hu:x0.unions.length≤1048576) (hn:∀ p∈x0.people,p.name.length≤1048576) (hf:specIsFamily x0=true):FnT Try.prog 45 [.agg (cFamily false x0)] (C45 (l11Sorted x0)):=by
 have aux:∀ R,l11Sorted x0=R→slim (C45 R) (A45 x0) []:=by
  intro R hR
  refine rg ⟨trivial,trivial⟩ ?_
  refine rg trivial ?_
  revert hR;refine lN (fun i v=>v.length=i) (by (exact rfl)) rfl fun i1 v1 F1 hn1 hI1 hR hK1=>?_
  refine rg trivial ?_
  refine ⟨fun hc1=>?_,fun hc1=>?_⟩
  ·have hii1:i1<x0.people.length:=by have:=of_decide_eq_true hc1;omega
   replace hR:=loopN_step hR hii1
   refine rg ⟨by (intros;omega),trivial⟩ ?_
   refine rg ⟨trivial,by omega,trivial⟩ ?_
   refine rg ⟨by ( intros;simp only [inR];omega),trivial⟩ ?_
   exact hK1 (v1++[(x0.people.getD i1 default).born]) hii1 (by (simp only [List.length_append,List.length_singleton];omega)) hR
  ·obtain rfl:i1=x0.people.length:=by have:=of_decide_eq_false hc1;omega
   replace hR:=loopN_end hR (Nat.lt_irrefl _)
   refine rg ⟨by (have h9:=fam_n hf;have h8:=permute_bd x0 (l11Order v1);omega),⟨by with_reducible assumption,by with_reducible assumption,by with_reducible assumption,by (have h9:=fam_n hf;have h8:=permute_bd x0 (l11Order v1);rw [order_len];omega)⟩,trivial,trivial⟩ ?_
   refine rg trivial ?_
   revert hR;refine lN (fun i v=>v.length=i) (by (exact rfl)) rfl fun i2 v2 F2 hn2 hI2 hR hK2=>?_
   refine rg trivial ?_
   refine ⟨fun hc2=>?_,fun hc2=>?_⟩
   ·have hii2:i2<(((specPermute x0 (l11Order v1)).1).unions).length:=by have:=of_decide_eq_true hc2;omega
    replace hR:=loopN_step hR hii2
    refine rg ⟨by (intros;omega),trivial⟩ ?_
    refine rg ⟨trivial,by (have h9:=fam_n hf;have h8:=permute_bd x0 (l11Order v1);omega),trivial⟩ ?_
    refine rg ⟨by (have h9:=fam_n hf;have h8:=permute_bd x0 (l11Order v1);have h7:=order_len v2;(try simp only [inR]);omega),trivial⟩ ?_
    exact hK2 (v2++[((((specPermute x0 (l11Order v1)).1).unions).getD i2 default).from0]) hii2 (by (simp only [List.length_append,List.length_singleton];omega)) hR
   ·obtain rfl:i2=(((specPermute x0 (l11Order v1)).1).unions).length:=by have:=of_decide_eq_false hc2;omega
    replace hR:=loopN_end hR (Nat.lt_irrefl _)
    refine rg trivial ?_
    refine rg ⟨by (have h9:=fam_n hf;have h8:=permute_bd x0 (l11Order v1);omega),trivial⟩ ?_
    revert hR;refine lN (fun i v=>v.length≤i) (by (exact Nat.le_refl _)) rfl fun i3 v3 F3 hn3 hI3 hR hK3=>?_
    refine rg trivial ?_
    refine ⟨fun hc3=>?_,fun hc3=>?_⟩
    ·have hii3:i3<(l11Order v2).length:=by have:=of_decide_eq_true hc3;omega
     replace hR:=loopN_step hR hii3
     refine rg ⟨by (intros;omega),trivial⟩ ?_
     refine rg ⟨by (have h9:=fam_n hf;have h8:=permute_bd x0 (l11Order v1);have h7:=order_rng v2 _ (getD_mem (d:=(default:Int)) hii3);omega),trivial,by (have h9:=fam_n hf;have h8:=permute_bd x0 (l11Order v1);have h7:=order_len v2;(try simp only [inR]);omega),trivial⟩ ?_
     refine rg ⟨by (have h9:=fam_n hf;have h8:=permute_bd x0 (l11Order v1);have h7:=order_len v2;(try simp only [inR]);omega),trivial⟩ ?_
     exact hK3 (v3++[((((specPermute x0 (l11Order v1)).1).unions).getD (((l11Order v2).getD i3 default).toNat) default)]) hii3 (by (simp only [List.length_append,List.length_singleton];omega)) hR
    ·obtain rfl:i3=(l11Order v2).length:=by have:=of_decide_eq_false hc3;omega
     replace hR:=loopN_end hR (Nat.lt_irrefl _)
     refine rg trivial ?_
     exact congrArg C45 hR
 exact Fn.go 71 Try.func45 (by kernel_rfl) (by kernel_rfl) (by simp [C45,Frs,FrsL,FrsB,rowOf,cInt,cBool,cStr,cSl,FrsL_app,cPerson,cUnion,cFamily,cEvent,cl01Cur]) (A45 x0) (by kernel_rfl) (aux _ rfl)
def k45 (x0:Family):Cl:=(hres (C45 (l11Sorted x0)),k4 (ok_spec_l11Sorted x0))
def C9 (R:Family):LV×List (Nat×BC):=(.agg [.own 0,.own 1],[(0,.arr 6 R.people.length (rowOf (cPerson true) R.people)),(1,.arr 4 R.unions.length (rowOf (cUnion true) R.unions))])
def specChron (x0:Family):Family:=bif (!(specIsFamily x0)) then (Family.mk ([]:List Person) ([]:List Union)) else (l11Sorted x0)
def A9 (x0:Family):Ann:=r0 1 [1,2] [1,2] (.reg 1 [] [(1,k15 x0)] [1,2,5] [1,2] [] [] [] [0] (cn (!(specIsFamily x0)) (r0 1 [1,2] [1,2] (rt [(0,none),(1,none)] (C9 (Family.mk ([]:List Person) ([]:List Union))))) (.reg 1 [] [(1,k45 x0)] [2] [2,1008,2008] [] [] [] [0] (rt [(0,some 1008),(1,some 2008)] (C9 (l11Sorted x0))))))
theorem ok_spec_Chronological (x0:Family) (hx:x0.people.length≤1048576) (hu:x0.unions.length≤1048576) (hn:∀ p∈x0.people,p.name.length≤1048576):FnT Try.prog 9 [.agg (cFamily false x0)] (C9 (specChron x0)):=by
 have aux:∀ R,specChron x0=R→slim (C9 R) (A9 x0) []:=by
  intro R hR
  refine rg trivial ?_
  refine rg ⟨⟨by with_reducible assumption,by with_reducible assumption,by with_reducible assumption⟩,trivial⟩ ?_
  revert hR;refine cd (fun hc1 hR=>?_) fun hc1 hR=>?_
  ·
    refine rg trivial ?_
    exact congrArg C9 hR
  ·
    refine rg ⟨⟨by with_reducible assumption,by with_reducible assumption,by with_reducible assumption,by (simpa using hc1)⟩,trivial⟩ ?_
    exact congrArg C9 hR
 exact Fn.go 9 Try.func9 (by kernel_rfl) (by kernel_rfl) (by simp [C9,Frs,FrsL,FrsB,rowOf,cInt,cBool,cStr,cSl,FrsL_app,cPerson,cUnion,cFamily,cEvent,cl01Cur]) (A9 x0) (by kernel_rfl) (aux _ rfl)
def k9 (x0:Family):Cl:=(hres (C9 (specChron x0)),k3 (ok_spec_Chronological x0))
def C21 (R:Bool):LV×List (Nat×BC):=(.bool R,[])
def specEqFam (x0:Family) (x1:Family):Bool:=bif ((!decide (((x0.people.length:Nat):Int)=((x1.people.length:Nat):Int)))||(!decide (((x0.unions.length:Nat):Int)=((x1.unions.length:Nat):Int)))) then false else (loopN (fun i1 (v1:Unit) next=>bif (!((((x0.people.getD i1 default).name)==((x1.people.getD i1 default).name))&&((decide (((x0.people.getD i1 default).sex)=((x1.people.getD i1 default).sex)))&&((decide (((x0.people.getD i1 default).father)=((x1.people.getD i1 default).father)))&&((decide (((x0.people.getD i1 default).mother)=((x1.people.getD i1 default).mother)))&&((decide (((x0.people.getD i1 default).born)=((x1.people.getD i1 default).born)))&&((decide (((x0.people.getD i1 default).died)=((x1.people.getD i1 default).died)))&&true))))))) then false else (next ())) (fun (v1:Unit)=>loopN (fun i2 (v2:Unit) next=>bif (!((decide (((x0.unions.getD i2 default).man)=((x1.unions.getD i2 default).man)))&&((decide (((x0.unions.getD i2 default).woman)=((x1.unions.getD i2 default).woman)))&&((decide (((x0.unions.getD i2 default).from0)=((x1.unions.getD i2 default).from0)))&&((decide (((x0.unions.getD i2 default).to)=((x1.unions.getD i2 default).to)))&&true))))) then false else (next ())) (fun (v2:Unit)=>true) x0.unions.length 0 ()) x0.people.length 0 ())
def D21b1 (x0:Family) (x1:Family) (i1:Nat) (v1:Unit):Dl:=⟨[(26,.int .i64 ((i1:Nat):Int))],[]⟩
def D21b2 (x0:Family) (x1:Family) (i1:Nat) (v1:Unit) (i2:Nat) (v2:Unit):Dl:=⟨[(44,.int .i64 ((i2:Nat):Int))],[]⟩
def A21b2 (x0:Family) (x1:Family) (i1:Nat) (v1:Unit) (i2:Nat) (v2:Unit):Ann:=r0 1 [2,3,4,43,44,45] [2,3] (cn (decide (((i2:Nat):Int)<((x0.unions.length:Nat):Int))) (r1 2 [2,3,4,43,44,57] [2,3] [pf (0≤(((i2:Nat):Int):Int)∧(((i2:Nat):Int):Int)<((x0.unions.length:Nat):Int)),pf (0≤(((i2:Nat):Int):Int)∧(((i2:Nat):Int):Int)<((x1.unions.length:Nat):Int))] [0,4] (cn (!((decide (((x0.unions.getD i2 default).man)=((x1.unions.getD i2 default).man)))&&((decide (((x0.unions.getD i2 default).woman)=((x1.unions.getD i2 default).woman)))&&((decide (((x0.unions.getD i2 default).from0)=((x1.unions.getD i2 default).from0)))&&((decide (((x0.unions.getD i2 default).to)=((x1.unions.getD i2 default).to)))&&true))))) (r0 1 [2,3,4,43,44] [2,3] (rt [] (C21 false))) (r1 1 [2,3,4,43,44] [2,3] [pf (inR .i64 (((i2:Nat):Int)+1))] [0] (.next 0 [] (D21b2 x0 x1 i1 v1 (i2+1) ()))))) (r0 1 [4] [] (rt [] (C21 true))))
def A21b1 (x0:Family) (x1:Family) (i1:Nat) (v1:Unit):Ann:=r0 1 [2,3,4,25,26,27] [2,3] (cn (decide (((i1:Nat):Int)<((x0.people.length:Nat):Int))) (r1 2 [2,3,4,25,26,39] [2,3] [pf (0≤(((i1:Nat):Int):Int)∧(((i1:Nat):Int):Int)<((x0.people.length:Nat):Int)),pf (0≤(((i1:Nat):Int):Int)∧(((i1:Nat):Int):Int)<((x1.people.length:Nat):Int))] [0,4] (cn (!((((x0.people.getD i1 default).name)==((x1.people.getD i1 default).name))&&((decide (((x0.people.getD i1 default).sex)=((x1.people.getD i1 default).sex)))&&((decide (((x0.people.getD i1 default).father)=((x1.people.getD i1 default).father)))&&((decide (((x0.people.getD i1 default).mother)=((x1.people.getD i1 default).mother)))&&((decide (((x0.people.getD i1 default).born)=((x1.people.getD i1 default).born)))&&((decide (((x0.people.getD i1 default).died)=((x1.people.getD i1 default).died)))&&true))))))) (r0 1 [2,3,4,25,26] [2,3] (rt [] (C21 false))) (r1 1 [2,3,4,25,26] [2,3] [pf (inR .i64 (((i1:Nat):Int)+1))] [0] (.next 0 [] (D21b1 x0 x1 (i1+1) ()))))) (r0 1 [2,3,4,43,44] [2,3] (lp (D21b2 x0 x1 i1 v1) [] [] [] (D21b2 x0 x1 i1 v1 0 ()) (A21b2 x0 x1 i1 v1))))
def A21 (x0:Family) (x1:Family):Ann:=r0 1 [2,3,4] [2,3] (.reg 1 [] [] [2,3,4,22] [2,3] [!(!decide (((x0.people.length:Nat):Int)=((x1.people.length:Nat):Int))),!decide (((x0.people.length:Nat):Int)=((x1.people.length:Nat):Int))] [] [] [1,1,1,1,1,1,6] (cn ((!decide (((x0.people.length:Nat):Int)=((x1.people.length:Nat):Int)))||(!decide (((x0.unions.length:Nat):Int)=((x1.unions.length:Nat):Int)))) (r0 1 [2,3,4] [2,3] (rt [] (C21 false))) (r0 1 [2,3,4,25,26] [2,3] (lp (D21b1 x0 x1) [] [] [] (D21b1 x0 x1 0 ()) (A21b1 x0 x1)))))
theorem ok_spec_EqualFamilies (x0:Family) (x1:Family) (h1:x0.people.length≤1000∧x0.unions.length≤1000) (h2:x1.people.length≤1000∧x1.unions.length≤1000):FnT Try.prog 21 [.agg (cFamily false x0),.agg (cFamily false x1)] (C21 (specEqFam x0 x1)):=by
 have aux:∀ R,specEqFam x0 x1=R→slim (C21 R) (A21 x0 x1) []:=by
  intro R hR
  refine rg trivial ?_
  refine rg trivial ?_
  revert hR;refine cd (fun hc1 hR=>?_) fun hc1 hR=>?_
  ·
    refine rg trivial ?_
    exact congrArg C21 hR
  ·
    refine rg trivial ?_
    revert hR;refine lN (fun i v=>True) (by exact True.intro) rfl fun i1 v1 F1 hn1 hI1 hR hK1=>?_
    refine rg trivial ?_
    refine ⟨fun hc2=>?_,fun hc2=>?_⟩
    · have hii1:i1<x0.people.length:=by have:=of_decide_eq_true hc2;omega
      replace hR:=loopN_step hR hii1
      refine rg ⟨by (intros;omega),by (simp only [Bool.or_eq_false_iff,Bool.not_eq_false',decide_eq_true_eq] at hc1;omega),trivial⟩ ?_
      revert hR;refine cd (fun hc3 hR=>?_) fun hc3 hR=>?_
      ·
        refine rg trivial ?_
        exact congrArg C21 hR
      ·
        refine rg ⟨by ( intros;simp only [inR];omega),trivial⟩ ?_
        exact hK1 () hii1 (by exact True.intro) hR
    · obtain rfl:i1=x0.people.length:=by have:=of_decide_eq_false hc2;omega
      replace hR:=loopN_end hR (Nat.lt_irrefl _)
      refine rg trivial ?_
      revert hR;refine lN (fun i v=>True) (by exact True.intro) rfl fun i2 v2 F2 hn2 hI2 hR hK2=>?_
      refine rg trivial ?_
      refine ⟨fun hc4=>?_,fun hc4=>?_⟩
      · have hii2:i2<x0.unions.length:=by have:=of_decide_eq_true hc4;omega
        replace hR:=loopN_step hR hii2
        refine rg ⟨by (intros;omega),by (simp only [Bool.or_eq_false_iff,Bool.not_eq_false',decide_eq_true_eq] at hc1;omega),trivial⟩ ?_
        revert hR;refine cd (fun hc5 hR=>?_) fun hc5 hR=>?_
        ·
          refine rg trivial ?_
          exact congrArg C21 hR
        ·
          refine rg ⟨by ( intros;simp only [inR];omega),trivial⟩ ?_
          exact hK2 () hii2 (by exact True.intro) hR
      · obtain rfl:i2=x0.unions.length:=by have:=of_decide_eq_false hc4;omega
        replace hR:=loopN_end hR (Nat.lt_irrefl _)
        refine rg trivial ?_
        exact congrArg C21 hR
 exact Fn.go 59 Try.func21 (by kernel_rfl) (by kernel_rfl) (by simp [C21,Frs,FrsL]) (A21 x0 x1) (by kernel_rfl) (aux _ rfl)
def k21 (x0:Family) (x1:Family):Cl:=(hres (C21 (specEqFam x0 x1)),k2 (ok_spec_EqualFamilies x0 x1))
end Go.Proofs.Ytepefimocflfkaa
