import Derived.Test.YtaageiiodlfeiaaM31
set_option maxHeartbeats 4000000
set_option linter.unusedSimpArgs false
set_option linter.unusedVariables false
namespace Go.Proofs.Ytaageiiodlfeiaa
open Go Go.Lite Go.Proofs
def C52 (R:(List (List Dyad))):LV×List (Nat×BC):=(.own 0,[(0,.arr 1 R.length (rowOf (cSl true 2 (cDyad true)) R))])
def zci (x0:Family):(List (List Dyad)):=loopN (fun i1 (v1:(List (List Dyad))) nx1=>loopN (fun i2 (v2:(List Dyad)) nx2=>loopN (fun i3 (v3:Int×Int) next=>next ((l8Add (Dyad.mk v3.1 v3.2) (zcd (((v1.getD ((Max.max ((zbj x0 ((i1:Nat):Int)).getD i3 default) ((i2:Nat):Int)).toNat) default).getD ((Min.min ((zbj x0 ((i1:Nat):Int)).getD i3 default) ((i2:Nat):Int)).toNat) default).num) ((((v1.getD ((Max.max ((zbj x0 ((i1:Nat):Int)).getD i3 default) ((i2:Nat):Int)).toNat) default).getD ((Min.min ((zbj x0 ((i1:Nat):Int)).getD i3 default) ((i2:Nat):Int)).toNat) default).exp)+1))).num,(l8Add (Dyad.mk v3.1 v3.2) (zcd (((v1.getD ((Max.max ((zbj x0 ((i1:Nat):Int)).getD i3 default) ((i2:Nat):Int)).toNat) default).getD ((Min.min ((zbj x0 ((i1:Nat):Int)).getD i3 default) ((i2:Nat):Int)).toNat) default).num) ((((v1.getD ((Max.max ((zbj x0 ((i1:Nat):Int)).getD i3 default) ((i2:Nat):Int)).toNat) default).getD ((Min.min ((zbj x0 ((i1:Nat):Int)).getD i3 default) ((i2:Nat):Int)).toNat) default).exp)+1))).exp)) (fun (v3:Int×Int)=>nx2 (v2++[(Dyad.mk v3.1 v3.2)])) ((zbj x0 ((i1:Nat):Int)).length) 0 (0,0)) (fun (v2:(List Dyad))=>bif ((decide (0≤((x0.people.getD i1 default).father)))&&(decide (0≤((x0.people.getD i1 default).mother)))) then (nx1 (v1++[(v2++[(l8Add (Dyad.mk 1 1) (zcd (((v1.getD ((Max.max ((x0.people.getD i1 default).father) ((x0.people.getD i1 default).mother)).toNat) default).getD ((Min.min ((x0.people.getD i1 default).father) ((x0.people.getD i1 default).mother)).toNat) default).num) ((((v1.getD ((Max.max ((x0.people.getD i1 default).father) ((x0.people.getD i1 default).mother)).toNat) default).getD ((Min.min ((x0.people.getD i1 default).father) ((x0.people.getD i1 default).mother)).toNat) default).exp)+1)))])])) else (nx1 (v1++[(v2++[(Dyad.mk 1 1)])]))) i1 0 ([]:List Dyad)) (fun (v1:(List (List Dyad)))=>v1) x0.people.length 0 ([]:List (List Dyad))
def D52b1 (x0:Family) (i1:Nat) (v1:(List (List Dyad))):Dl:=⟨[(18,.int .i64 ((i1:Nat):Int)),(3,.own 20003)],[(20003,.arr 1 v1.length (rowOf (cSl true 2 (cDyad true)) v1))]⟩
def D52b2 (x0:Family) (i1:Nat) (v1:(List (List Dyad))) (i2:Nat) (v2:(List Dyad)):Dl:=⟨[(7,.int .i64 ((i2:Nat):Int)),(6,.own 20006)],[(20006,.arr 2 v2.length (rowOf (cDyad true) v2))]⟩
def D52b3 (x0:Family) (i1:Nat) (v1:(List (List Dyad))) (i2:Nat) (v2:(List Dyad)) (i3:Nat) (v3:Int×Int):Dl:=⟨[(34,.int .i64 ((i3:Nat):Int))],[(8,.var [.int .i64 v3.1,.int .i64 v3.2])]⟩
def A52b3 (x0:Family) (i1:Nat) (v1:(List (List Dyad))) (i2:Nat) (v2:(List Dyad)) (i3:Nat) (v3:Int×Int):Ann:=r0 1 [1,2,3,4,5,6,7,8,16,17,18,32,33,34,35] [1,5,8,1032,20003,20006] (cn (decide (((i3:Nat):Int)<(((zbj x0 ((i1:Nat):Int)).length:Nat):Int))) (r1 2 [1,2,3,4,5,6,7,8,11,16,17,18,32,33,34] [1,5,8,11,1032,20003,20006] [pf (0≤(((i3:Nat):Int):Int)∧(((i3:Nat):Int):Int)<(((zbj x0 ((i1:Nat):Int)).length:Nat):Int)),pf (0≤(Max.max ((zbj x0 ((i1:Nat):Int)).getD i3 default) ((i2:Nat):Int):Int)∧(Max.max ((zbj x0 ((i1:Nat):Int)).getD i3 default) ((i2:Nat):Int):Int)<((v1.length:Nat):Int)),pf (0≤(Min.min ((zbj x0 ((i1:Nat):Int)).getD i3 default) ((i2:Nat):Int):Int)∧(Min.min ((zbj x0 ((i1:Nat):Int)).getD i3 default) ((i2:Nat):Int):Int)<(((v1.getD ((Max.max ((zbj x0 ((i1:Nat):Int)).getD i3 default) ((i2:Nat):Int)).toNat) default).length:Nat):Int))] [0,4,8] (.reg 1 [] [(6,k58 (((v1.getD ((Max.max ((zbj x0 ((i1:Nat):Int)).getD i3 default) ((i2:Nat):Int)).toNat) default).getD ((Min.min ((zbj x0 ((i1:Nat):Int)).getD i3 default) ((i2:Nat):Int)).toNat) default).num) ((((v1.getD ((Max.max ((zbj x0 ((i1:Nat):Int)).getD i3 default) ((i2:Nat):Int)).toNat) default).getD ((Min.min ((zbj x0 ((i1:Nat):Int)).getD i3 default) ((i2:Nat):Int)).toNat) default).exp)+1)),(7,k55 (Dyad.mk v3.1 v3.2) (zcd (((v1.getD ((Max.max ((zbj x0 ((i1:Nat):Int)).getD i3 default) ((i2:Nat):Int)).toNat) default).getD ((Min.min ((zbj x0 ((i1:Nat):Int)).getD i3 default) ((i2:Nat):Int)).toNat) default).num) ((((v1.getD ((Max.max ((zbj x0 ((i1:Nat):Int)).getD i3 default) ((i2:Nat):Int)).toNat) default).getD ((Min.min ((zbj x0 ((i1:Nat):Int)).getD i3 default) ((i2:Nat):Int)).toNat) default).exp)+1)))] [1,2,3,4,5,6,7,8,16,17,18,32,33,34] [1,5,8,1032,20003,20006] [] [pf (inR .i64 ((((v1.getD ((Max.max ((zbj x0 ((i1:Nat):Int)).getD i3 default) ((i2:Nat):Int)).toNat) default).getD ((Min.min ((zbj x0 ((i1:Nat):Int)).getD i3 default) ((i2:Nat):Int)).toNat) default).exp)+1))] [] [0,4,8] (r1 1 [1,2,3,4,5,6,7,8,16,17,18,32,33,34] [1,5,8,1032,20003,20006] [pf (inR .i64 (((i3:Nat):Int)+1))] [0] (.next 0 [] (D52b3 x0 i1 v1 i2 v2 (i3+1) ((l8Add (Dyad.mk v3.1 v3.2) (zcd (((v1.getD ((Max.max ((zbj x0 ((i1:Nat):Int)).getD i3 default) ((i2:Nat):Int)).toNat) default).getD ((Min.min ((zbj x0 ((i1:Nat):Int)).getD i3 default) ((i2:Nat):Int)).toNat) default).num) ((((v1.getD ((Max.max ((zbj x0 ((i1:Nat):Int)).getD i3 default) ((i2:Nat):Int)).toNat) default).getD ((Min.min ((zbj x0 ((i1:Nat):Int)).getD i3 default) ((i2:Nat):Int)).toNat) default).exp)+1))).num,(l8Add (Dyad.mk v3.1 v3.2) (zcd (((v1.getD ((Max.max ((zbj x0 ((i1:Nat):Int)).getD i3 default) ((i2:Nat):Int)).toNat) default).getD ((Min.min ((zbj x0 ((i1:Nat):Int)).getD i3 default) ((i2:Nat):Int)).toNat) default).num) ((((v1.getD ((Max.max ((zbj x0 ((i1:Nat):Int)).getD i3 default) ((i2:Nat):Int)).toNat) default).getD ((Min.min ((zbj x0 ((i1:Nat):Int)).getD i3 default) ((i2:Nat):Int)).toNat) default).exp)+1))).exp)))))) (.reg 1 [] [(2,bsC 60 (cDyad true) ([(Dyad.mk v3.1 v3.2)]:List Dyad)),(3,ap1 61 (cDyad true) 16 v2 (Dyad.mk v3.1 v3.2))] [1,2,3,4,5,6,7,16,17,18] [1,5,61,20003] [] [] [] [0,4] (r1 1 [1,2,3,4,5,6,7,16,17,18] [1,5,61,20003] [pf (inR .i64 (((i2:Nat):Int)+1))] [0] (.next 1 [(20006,some 61)] (D52b2 x0 i1 v1 (i2+1) (v2++[(Dyad.mk v3.1 v3.2)]))))))
def A52b2 (x0:Family) (i1:Nat) (v1:(List (List Dyad))) (i2:Nat) (v2:(List Dyad)):Ann:=r0 1 [1,2,3,4,5,6,7,16,17,18,26] [1,5,20003,20006] (cn (decide (((i2:Nat):Int)<((i1:Nat):Int))) (r0 1 [1,2,3,4,5,6,7,8,16,17,18] [1,5,8,20003,20006] (.reg 1 [] [(2,k107 x0 ((i1:Nat):Int))] [1,2,3,4,5,6,7,8,16,17,18,32,33,34] [1,5,8,1032,20003,20006] [] [] [] [0] (lp (D52b3 x0 i1 v1 i2 v2) [] [] [] (D52b3 x0 i1 v1 i2 v2 0 (0,0)) (A52b3 x0 i1 v1 i2 v2)))) (r0 1 [1,2,3,5,6,12,16,17,18] [1,5,12,20003,20006] (.reg 1 [] [] [1,2,3,5,6,12,16,17,18,70] [1,5,12,20003,20006] [decide (0≤((x0.people.getD i1 default).father))] [] [] [1,1,1] (cn ((decide (0≤((x0.people.getD i1 default).father)))&&(decide (0≤((x0.people.getD i1 default).mother)))) (r1 1 [1,2,3,6,12,13,16,17,18] [1,12,13,20003,20006] [pf (0≤(Max.max ((x0.people.getD i1 default).father) ((x0.people.getD i1 default).mother):Int)∧(Max.max ((x0.people.getD i1 default).father) ((x0.people.getD i1 default).mother):Int)<((v1.length:Nat):Int)),pf (0≤(Min.min ((x0.people.getD i1 default).father) ((x0.people.getD i1 default).mother):Int)∧(Min.min ((x0.people.getD i1 default).father) ((x0.people.getD i1 default).mother):Int)<(((v1.getD ((Max.max ((x0.people.getD i1 default).father) ((x0.people.getD i1 default).mother)).toNat) default).length:Nat):Int))] [0,4] (.reg 1 [] [(6,k58 (((v1.getD ((Max.max ((x0.people.getD i1 default).father) ((x0.people.getD i1 default).mother)).toNat) default).getD ((Min.min ((x0.people.getD i1 default).father) ((x0.people.getD i1 default).mother)).toNat) default).num) ((((v1.getD ((Max.max ((x0.people.getD i1 default).father) ((x0.people.getD i1 default).mother)).toNat) default).getD ((Min.min ((x0.people.getD i1 default).father) ((x0.people.getD i1 default).mother)).toNat) default).exp)+1)),(7,k55 (Dyad.mk 1 1) (zcd (((v1.getD ((Max.max ((x0.people.getD i1 default).father) ((x0.people.getD i1 default).mother)).toNat) default).getD ((Min.min ((x0.people.getD i1 default).father) ((x0.people.getD i1 default).mother)).toNat) default).num) ((((v1.getD ((Max.max ((x0.people.getD i1 default).father) ((x0.people.getD i1 default).mother)).toNat) default).getD ((Min.min ((x0.people.getD i1 default).father) ((x0.people.getD i1 default).mother)).toNat) default).exp)+1)))] [1,2,3,6,12,16,17,18] [1,12,20003,20006] [] [pf (inR .i64 ((((v1.getD ((Max.max ((x0.people.getD i1 default).father) ((x0.people.getD i1 default).mother)).toNat) default).getD ((Min.min ((x0.people.getD i1 default).father) ((x0.people.getD i1 default).mother)).toNat) default).exp)+1))] [] [0,4,8] (.reg 1 [] [(3,bsC 97 (cDyad true) ([(l8Add (Dyad.mk 1 1) (zcd (((v1.getD ((Max.max ((x0.people.getD i1 default).father) ((x0.people.getD i1 default).mother)).toNat) default).getD ((Min.min ((x0.people.getD i1 default).father) ((x0.people.getD i1 default).mother)).toNat) default).num) ((((v1.getD ((Max.max ((x0.people.getD i1 default).father) ((x0.people.getD i1 default).mother)).toNat) default).getD ((Min.min ((x0.people.getD i1 default).father) ((x0.people.getD i1 default).mother)).toNat) default).exp)+1)))]:List Dyad)),(4,ap1 98 (cDyad true) 16 v2 (l8Add (Dyad.mk 1 1) (zcd (((v1.getD ((Max.max ((x0.people.getD i1 default).father) ((x0.people.getD i1 default).mother)).toNat) default).getD ((Min.min ((x0.people.getD i1 default).father) ((x0.people.getD i1 default).mother)).toNat) default).num) ((((v1.getD ((Max.max ((x0.people.getD i1 default).father) ((x0.people.getD i1 default).mother)).toNat) default).getD ((Min.min ((x0.people.getD i1 default).father) ((x0.people.getD i1 default).mother)).toNat) default).exp)+1)))),(5,bsC 99 (cSl true 2 (cDyad true)) ([(v2++[(l8Add (Dyad.mk 1 1) (zcd (((v1.getD ((Max.max ((x0.people.getD i1 default).father) ((x0.people.getD i1 default).mother)).toNat) default).getD ((Min.min ((x0.people.getD i1 default).father) ((x0.people.getD i1 default).mother)).toNat) default).num) ((((v1.getD ((Max.max ((x0.people.getD i1 default).father) ((x0.people.getD i1 default).mother)).toNat) default).getD ((Min.min ((x0.people.getD i1 default).father) ((x0.people.getD i1 default).mother)).toNat) default).exp)+1)))])]:List (List Dyad))),(6,ap1 100 (cSl true 2 (cDyad true)) 24 v1 (v2++[(l8Add (Dyad.mk 1 1) (zcd (((v1.getD ((Max.max ((x0.people.getD i1 default).father) ((x0.people.getD i1 default).mother)).toNat) default).getD ((Min.min ((x0.people.getD i1 default).father) ((x0.people.getD i1 default).mother)).toNat) default).num) ((((v1.getD ((Max.max ((x0.people.getD i1 default).father) ((x0.people.getD i1 default).mother)).toNat) default).getD ((Min.min ((x0.people.getD i1 default).father) ((x0.people.getD i1 default).mother)).toNat) default).exp)+1)))]))] [1,2,3,16,17,18] [1,100] [] [] [] [0,4,8,12] (r1 1 [1,2,3,16,17,18] [1,100] [pf (inR .i64 (((i1:Nat):Int)+1))] [0] (.next 1 [(20003,some 100)] (D52b1 x0 (i1+1) (v1++[(v2++[(l8Add (Dyad.mk 1 1) (zcd (((v1.getD ((Max.max ((x0.people.getD i1 default).father) ((x0.people.getD i1 default).mother)).toNat) default).getD ((Min.min ((x0.people.getD i1 default).father) ((x0.people.getD i1 default).mother)).toNat) default).num) ((((v1.getD ((Max.max ((x0.people.getD i1 default).father) ((x0.people.getD i1 default).mother)).toNat) default).getD ((Min.min ((x0.people.getD i1 default).father) ((x0.people.getD i1 default).mother)).toNat) default).exp)+1)))])]))))))) (.reg 1 [] [(3,bsC 97 (cDyad true) ([(Dyad.mk 1 1)]:List Dyad)),(4,ap1 98 (cDyad true) 16 v2 (Dyad.mk 1 1)),(5,bsC 99 (cSl true 2 (cDyad true)) ([(v2++[(Dyad.mk 1 1)])]:List (List Dyad))),(6,ap1 100 (cSl true 2 (cDyad true)) 24 v1 (v2++[(Dyad.mk 1 1)]))] [1,2,3,16,17,18] [1,100] [] [] [] [0,4,8,12] (r1 1 [1,2,3,16,17,18] [1,100] [pf (inR .i64 (((i1:Nat):Int)+1))] [0] (.next 1 [(20003,some 100)] (D52b1 x0 (i1+1) (v1++[(v2++[(Dyad.mk 1 1)])])))))))))
def A52b1 (x0:Family) (i1:Nat) (v1:(List (List Dyad))):Ann:=r0 1 [1,2,3,16,17,18,19] [1,20003] (cn (decide (((i1:Nat):Int)<((x0.people.length:Nat):Int))) (.reg 2 [] [(1000,bsC 23 (cDyad true) ([]:List Dyad))] [1,2,3,4,5,6,16,17,18] [1,5,23,20003] [] [pf (0≤(((i1:Nat):Int):Int)∧(((i1:Nat):Int):Int)<((x0.people.length:Nat):Int))] [] [0,4] (r0 1 [1,2,3,4,5,6,7,16,17,18] [1,5,23,20003] (lp (D52b2 x0 i1 v1) [] [23] [(20006,some 23)] (D52b2 x0 i1 v1 0 ([]:List Dyad)) (A52b2 x0 i1 v1)))) (r0 1 [2] [20003] (rt [(0,some 20003)] (C52 v1))))
def A52 (x0:Family):Ann:=.reg 2 [] [(1000,bsC 14 (cSl true 2 (cDyad true)) ([]:List (List Dyad)))] [1,2,3] [1,14] [] [] [] [0] (r0 1 [1,2,3,16,17,18] [1,14] (lp (D52b1 x0) [] [14] [(20003,some 14)] (D52b1 x0 0 ([]:List (List Dyad))) (A52b1 x0)))
theorem zmw (x0:Family) (hx:x0.people.length≤1048576) (hf:zbh x0=true):FnT Try.prog 52 [.agg (zce false x0)] (C52 (zci x0)):=by
 have aux:∀ R,zci x0=R→slim (C52 R) (A52 x0) []:=by
  intro R hR
  refine rg ⟨trivial,trivial⟩ ?_
  refine rg trivial ?_
  revert hR;refine lN (fun i v=>Tab x0 v i) (by (exact ⟨rfl,fun a ha=>absurd ha (Nat.not_lt_zero _)⟩)) rfl fun i1 v1 F1 hn1 hI1 hR hK1=>?_
  refine rg trivial ?_
  refine ⟨fun hc1=>?_,fun hc1=>?_⟩
  ·have hii1:i1<x0.people.length:=by have:=of_decide_eq_true hc1;omega
   replace hR:=zb0 hR hii1
   refine rg ⟨by (intros;omega),trivial,trivial⟩ ?_
   refine rg trivial ?_
   revert hR;refine lN (fun i v=>v.length=i∧∀ b:Nat,b<i→v.getD b default=dy (kn x0 (i1:Int) b)) (by (exact ⟨rfl,fun a ha=>absurd ha (Nat.not_lt_zero _)⟩)) rfl fun i2 v2 F2 hn2 hI2 hR hK2=>?_
   refine rg trivial ?_
   refine ⟨fun hc2=>?_,fun hc2=>?_⟩
   ·have hii2:i2<i1:=by have:=of_decide_eq_true hc2;omega
    replace hR:=zb0 hR hii2
    refine rg trivial ?_
    refine rg ⟨⟨by trivial,by (intros;omega)⟩,trivial⟩ ?_
    have hp1:=zck x0 ((i1:Nat):Int)
    revert hR;refine lN (fun i v=>Dyad.mk v.1 v.2=dy (sumTo (fun k=>kn x0 ((zbj x0 (i1:Int)).getD k default) (i2:Int) / 2) i)) zay rfl fun i3 v3 F3 hn3 hI3 hR hK3=>?_
    refine rg trivial ?_
    refine ⟨fun hc3=>?_,fun hc3=>?_⟩
    ·have hii3:i3<(zbj x0 ((i1:Nat):Int)).length:=by have:=of_decide_eq_true hc3;omega
     replace hR:=zb0 hR hii3
     refine rg ⟨by (intros;omega),by (have h7:=tabQ hf hI1 hii1 hii2 hii3;have h8:=kn_dy hf h7.2.2 (show 0≤(i2:Int)∧(i2:Int)<x0.people.length by omega) h7.2.1;exact h7.1.1),by (have h7:=tabQ hf hI1 hii1 hii2 hii3;have h8:=kn_dy hf h7.2.2 (show 0≤(i2:Int)∧(i2:Int)<x0.people.length by omega) h7.2.1;exact h7.1.2),trivial⟩ ?_
     refine rg ⟨by (have h7:=tabQ hf hI1 hii1 hii2 hii3;have h8:=kn_dy hf h7.2.2 (show 0≤(i2:Int)∧(i2:Int)<x0.people.length by omega) h7.2.1;simp only [inR];omega),⟨by (have h7:=tabQ hf hI1 hii1 hii2 hii3;have h8:=kn_dy hf h7.2.2 (show 0≤(i2:Int)∧(i2:Int)<x0.people.length by omega) h7.2.1;omega),by (have h7:=tabQ hf hI1 hii1 hii2 hii3;have h8:=kn_dy hf h7.2.2 (show 0≤(i2:Int)∧(i2:Int)<x0.people.length by omega) h7.2.1;omega)⟩,⟨by (have h6:=sumQ hf hii1 hii2 (Nat.le_of_lt hii3);rw [hI3];exact dy_Dy om),by (have h7:=tabQ hf hI1 hii1 hii2 hii3;have h8:=kn_dy hf h7.2.2 (show 0≤(i2:Int)∧(i2:Int)<x0.people.length by omega) h7.2.1;exact h8.2.2.2)⟩,trivial⟩ ?_
     refine rg ⟨by ( intros;simp only [inR];omega),trivial⟩ ?_
     exact hK3 ((l8Add (Dyad.mk v3.1 v3.2) (zcd (((v1.getD ((Max.max ((zbj x0 ((i1:Nat):Int)).getD i3 default) ((i2:Nat):Int)).toNat) default).getD ((Min.min ((zbj x0 ((i1:Nat):Int)).getD i3 default) ((i2:Nat):Int)).toNat) default).num) ((((v1.getD ((Max.max ((zbj x0 ((i1:Nat):Int)).getD i3 default) ((i2:Nat):Int)).toNat) default).getD ((Min.min ((zbj x0 ((i1:Nat):Int)).getD i3 default) ((i2:Nat):Int)).toNat) default).exp)+1))).num,(l8Add (Dyad.mk v3.1 v3.2) (zcd (((v1.getD ((Max.max ((zbj x0 ((i1:Nat):Int)).getD i3 default) ((i2:Nat):Int)).toNat) default).getD ((Min.min ((zbj x0 ((i1:Nat):Int)).getD i3 default) ((i2:Nat):Int)).toNat) default).num) ((((v1.getD ((Max.max ((zbj x0 ((i1:Nat):Int)).getD i3 default) ((i2:Nat):Int)).toNat) default).getD ((Min.min ((zbj x0 ((i1:Nat):Int)).getD i3 default) ((i2:Nat):Int)).toNat) default).exp)+1))).exp) hii3 (by (exact zt4 hf hI1 hii1 hii2 hii3 hI3 rfl)) hR
    ·obtain rfl:i3=(zbj x0 ((i1:Nat):Int)).length:=by have:=of_decide_eq_false hc3;omega
     replace hR:=zb4 hR (Nat.lt_irrefl _)
     refine rg ⟨trivial,om,trivial⟩ ?_
     refine rg ⟨by ( intros;simp only [inR];omega),trivial⟩ ?_
     exact hK2 (v2++[(Dyad.mk v3.1 v3.2)]) hii2 (by (exact zub hf hii1 hii2 hI2 hI3)) hR
   ·obtain rfl:i1=i2:=by have:=of_decide_eq_false hc2;omega
    replace hR:=zb4 hR (Nat.lt_irrefl _)
    refine rg trivial ?_
    refine rg trivial ?_
    revert hR;refine cd (fun hc4 hR=>?_) fun hc4 hR=>?_
    ·
      refine rg ⟨by (have h7:=zgk hf hI1 hii1 zbf rfl;exact h7.1.1),by (have h7:=zgk hf hI1 hii1 zbf rfl;exact h7.1.2),trivial⟩ ?_
      refine rg ⟨by (have h7:=zgk hf hI1 hii1 zbf rfl;simp only [inR];omega),⟨by (have h7:=zgk hf hI1 hii1 zbf rfl;omega),by (have h7:=zgk hf hI1 hii1 zbf rfl;omega)⟩,⟨by trivial,by (have h7:=zgk hf hI1 hii1 zbf rfl;exact h7.2.1.2.2)⟩,trivial⟩ ?_
      refine rg ⟨trivial,om,trivial,by (have h9:=hI1.1;simp;omega),trivial⟩ ?_
      refine rg ⟨by ( intros;simp only [inR];omega),trivial⟩ ?_
      exact hK1 (v1++[(v2++[(l8Add (Dyad.mk 1 1) (zcd (((v1.getD ((Max.max ((x0.people.getD i1 default).father) ((x0.people.getD i1 default).mother)).toNat) default).getD ((Min.min ((x0.people.getD i1 default).father) ((x0.people.getD i1 default).mother)).toNat) default).num) ((((v1.getD ((Max.max ((x0.people.getD i1 default).father) ((x0.people.getD i1 default).mother)).toNat) default).getD ((Min.min ((x0.people.getD i1 default).father) ((x0.people.getD i1 default).mother)).toNat) default).exp)+1)))])]) hii1 (by (have h7:=zgk hf hI1 hii1 zbf rfl;exact zl1 hI1 hI2 h7.2.2)) hR
    ·
      refine rg ⟨trivial,om,trivial,by (have h9:=hI1.1;simp;omega),trivial⟩ ?_
      refine rg ⟨by ( intros;simp only [inR];omega),trivial⟩ ?_
      exact hK1 (v1++[(v2++[(Dyad.mk 1 1)])]) hii1 (by (exact zl1 hI1 hI2 (zuf hf hii1 zbf))) hR
  ·obtain rfl:i1=x0.people.length:=by have:=of_decide_eq_false hc1;omega
   replace hR:=zb4 hR (Nat.lt_irrefl _)
   refine rg trivial ?_
   exact congrArg C52 hR
 exact Fn.go 103 Try.func52 zax zax (by simp [C52,Frs,FrsL,FrsB,rowOf,cInt,cBool,cStr,cSl,zdj,zca,zcu,zce,cDyad]) (A52 x0) zax (aux _ rfl)
def k52 (x0:Family):Cl:=(hres (C52 (zci x0)),k2 (zmw x0))
theorem zng {x:Family} (hf:zbh x=true):Tab x (zci x) x.people.length:=by
 unfold zci
 refine zcc (fun i v=>Tab x v i) (fun r=>Tab x r x.people.length) ⟨rfl,fun a ha=>absurd ha (Nat.not_lt_zero _)⟩ (fun i v next hi hv hn=>?_) (fun v hv=>hv)
 refine zcc (fun j (r:List Dyad)=>r.length=j∧∀ b:Nat,b<j→r.getD b default=dy (kn x (i:Int) b)) (fun r=>Tab x r x.people.length) ⟨rfl,fun a ha=>absurd ha (Nat.not_lt_zero _)⟩ (fun j r next2 hj hr hn2=>?_) (fun r hr=>?_)
 ·exact zcc (fun k (s:Int×Int)=>Dyad.mk s.1 s.2=dy (sumTo (fun k=>kn x ((zbj x (i:Int)).getD k default) (j:Int) / 2) k)) (fun r=>Tab x r x.people.length) dy_zero.symm (fun k s next3 hk hs hn3=>hn3 _ (zt4 hf hv hi hj hk hs rfl)) (fun s hs=>hn2 _ (zub hf hi hj hr hs))
 ·cases hc:(decide (0≤(x.people.getD i default).father)&&decide (0≤(x.people.getD i default).mother))
  ·exact hn _ (zl1 hv hr (zuf hf hi hc))
  ·exact hn _ (zl1 hv hr (zgk hf hv hi hc rfl).2.2)
theorem zpk {x : Family} (hf : zbh x = true) {p : Int} (hp : 0 ≤ p ∧ p < x.people.length) (hc : (decide ((x.people.getD p.toNat default).father < 0) || decide ((x.people.getD p.toNat default).mother < 0)) = false) :
    (0≤(x.people.getD p.toNat default).father∧(x.people.getD p.toNat default).father<x.people.length)∧0≤(x.people.getD p.toNat default).mother∧(x.people.getD p.toNat default).mother<x.people.length:=by
 simp only [zbr,decide_eq_false_iff_not,Int.not_lt] at hc
 have h1:=zep hf hp (q:=(x.people.getD p.toNat default).father) ⟨hc.1,.inl rfl⟩
 have h2:=zep hf hp (q:=(x.people.getD p.toNat default).mother) ⟨hc.2,.inr rfl⟩
 omega
def SeenOk (x:Family) (s:KV→Option Int):Prop:=∀ (a b v:Int),s (KV.p a b)=some v→v=kn x a b
theorem SeenOk.nil (x:Family):SeenOk x (fun _=>none):=fun a b v h=>by cases h
theorem SeenOk.set {x:Family} {s:KV→Option Int} (h:SeenOk x s) {a b v:Int} (hv:v=kn x a b):SeenOk x (mset s (KV.p a b) v):=by
 intro c d u hu
 unfold mset at hu
 split at hu
 ·rename_i e;cases e;cases hu;exact hv
 ·exact h c d u hu
theorem SeenOk.hit {x:Family} {s:KV→Option Int} (h:SeenOk x s) {a b:Int} (hc:(s (KV.p a b)).isSome=true):(s (KV.p a b)).getD 0=kn x a b:=by
 cases e:s (KV.p a b) with
 | none=>rw [e] at hc;cases hc
 | some v=>exact h a b v e
theorem sumR {x : Family} (hf : zbh x = true) {a b : Int} (ha : 0 ≤ a ∧ a < x.people.length) (hb : 0 ≤ b ∧ b < a) {n : Nat} (hn : n ≤ (zbj x a).length) :
    0≤sumTo (fun k=>kn x ((zbj x a).getD k default) b / 2) n∧sumTo (fun k=>kn x ((zbj x a).getD k default) b / 2) n≤1099511627776:=by
 have e1:((a.toNat:Nat):Int)=a:=by omega
 have e2:((b.toNat:Nat):Int)=b:=by omega
 have h:=sumQ hf (i:=a.toNat) (j:=b.toNat) om om (n:=n) (by rw [e1];exact hn)
 rw [e1,e2] at h;exact h
def C56 (R:Dyad):LV×List (Nat×BC):=(.agg [.int .i64 R.num,.int .i64 R.exp],[])
def zbx (x0:Family) (x1:List (List Dyad)) (x2:Int):Dyad:=bif ((decide (((x0.people.getD x2.toNat default).father)<0))||(decide (((x0.people.getD x2.toNat default).mother)<0))) then (Dyad.mk 0 0) else ((x1.getD ((Max.max ((x0.people.getD x2.toNat default).father) ((x0.people.getD x2.toNat default).mother)).toNat) default).getD ((Min.min ((x0.people.getD x2.toNat default).father) ((x0.people.getD x2.toNat default).mother)).toNat) default)
def A56 (x0:Family) (x1:List (List Dyad)) (x2:Int):Ann:=r1 2 [1,6,7] [6,7] [pf (0≤(x2:Int)∧(x2:Int)<((x0.people.length:Nat):Int))] [0] (.reg 1 [] [] [1,6,7,20] [6,7] [!(decide (((x0.people.getD x2.toNat default).father)<0)),decide (((x0.people.getD x2.toNat default).father)<0)] [] [] [1,1,6] (cn ((decide (((x0.people.getD x2.toNat default).father)<0))||(decide (((x0.people.getD x2.toNat default).mother)<0))) (r0 1 [1,6,7] [6,7] (rt [] (C56 (Dyad.mk 0 0)))) (r1 1 [6] [6] [pf (0≤(Max.max ((x0.people.getD x2.toNat default).father) ((x0.people.getD x2.toNat default).mother):Int)∧(Max.max ((x0.people.getD x2.toNat default).father) ((x0.people.getD x2.toNat default).mother):Int)<((x1.length:Nat):Int)),pf (0≤(Min.min ((x0.people.getD x2.toNat default).father) ((x0.people.getD x2.toNat default).mother):Int)∧(Min.min ((x0.people.getD x2.toNat default).father) ((x0.people.getD x2.toNat default).mother):Int)<(((x1.getD ((Max.max ((x0.people.getD x2.toNat default).father) ((x0.people.getD x2.toNat default).mother)).toNat) default).length:Nat):Int))] [0,4] (rt [] (C56 ((x1.getD ((Max.max ((x0.people.getD x2.toNat default).father) ((x0.people.getD x2.toNat default).mother)).toNat) default).getD ((Min.min ((x0.people.getD x2.toNat default).father) ((x0.people.getD x2.toNat default).mother)).toNat) default))))))
theorem zi7 (x0:Family) (x1:List (List Dyad)) (x2:Int) (hx:x0.people.length≤1048576) (ht:Tab x0 x1 x0.people.length) (hf:zbh x0=true) (hi:0≤x2∧x2<x0.people.length):FnT Try.prog 56 [.agg (zce false x0),.ro false 1 x1.length (rowOf (cSl false 2 (cDyad false)) x1),.int .i64 x2] (C56 (zbx x0 x1 x2)):=by
 have aux:∀ R,zbx x0 x1 x2=R→slim (C56 R) (A56 x0 x1 x2) []:=by
  intro R hR
  refine rg ⟨by trivial,trivial⟩ ?_
  refine rg trivial ?_
  revert hR;refine cd (fun hc1 hR=>?_) fun hc1 hR=>?_
  ·
    refine rg trivial ?_
    exact congrArg C56 hR
  ·
    refine rg ⟨by (have h8:=zpk hf hi hc1;exact (ht.at h8.1 h8.2).1),by (have h8:=zpk hf hi hc1;exact (ht.at h8.1 h8.2).2.1),trivial⟩ ?_
    exact congrArg C56 hR
 exact Fn.go 37 Try.func56 zax zax (by simp [C56,Frs,FrsL]) (A56 x0 x1 x2) zax (aux _ rfl)
def k56 (x0:Family) (x1:List (List Dyad)) (x2:Int):Cl:=(hres (C56 (zbx x0 x1 x2)),k4 (zi7 x0 x1 x2))
end Go.Proofs.Ytaageiiodlfeiaa
