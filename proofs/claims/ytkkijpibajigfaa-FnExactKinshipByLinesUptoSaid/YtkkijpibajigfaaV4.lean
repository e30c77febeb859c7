import Derived.Test.YtkkijpibajigfaaM3
set_option maxHeartbeats 4000000
set_option linter.unusedSimpArgs false
set_option linter.unusedVariables false
namespace Go.Proofs.Ytkkijpibajigfaa
open Go Go.Lite Go.Proofs
def C107 (R:(List Int)):LV×List (Nat×BC):=(.own 0,[(0,.arr 1 R.length (rowOf (cInt .i64) R))])
def l8Up (x0:Family) (x1:Int):(List Int):=loopN (fun i1 (v1:(List Int)) next=>next (v1++[(-1)])) (fun (v1:(List Int))=>loopW (fun (v2:(List Int)×Int) nx2=>bif (decide (0≤v2.2)) then (bif (decide ((v2.1.getD v2.2.toNat default)<0)) then (nx2 (v2.1,v2.2 - 1)) else (loopN (fun i3 (v3:(List Int)) next=>bif ((decide ((v3.getD (((l1Parents x0 v2.2).getD i3 default).toNat) default)<0)) || (decide (((v3.getD v2.2.toNat default)+1)<(v3.getD (((l1Parents x0 v2.2).getD i3 default).toNat) default)))) then (next (v3.set (((l1Parents x0 v2.2).getD i3 default).toNat) ((v3.getD v2.2.toNat default)+1))) else (next v3)) (fun (v3:(List Int))=>nx2 (v3,v2.2 - 1)) ((l1Parents x0 v2.2).length) 0 v2.1)) else v2.1) (((((v1.set x1.toNat 0).length:Nat):Int) - 1+1).toNat+1) ((v1.set x1.toNat 0),(((v1.set x1.toNat 0).length:Nat):Int) - 1)) x0.people.length 0 ([]:List Int)
def D107b1 (x0:Family) (x1:Int) (i1:Nat) (v1:(List Int)):Dl:=⟨[(13,.int .i64 ((i1:Nat):Int)),(5,.own 20005)],[(20005,.arr 1 v1.length (rowOf (cInt .i64) v1))]⟩
def D107b2 (x0:Family) (x1:Int) (i1:Nat) (v1:(List Int)) (v2:(List Int)×Int):Dl:=⟨[(5,.own 30005),(6,.int .i64 v2.2)],[(30005,.arr 1 v2.1.length (rowOf (cInt .i64) v2.1))]⟩
def D107b3 (x0:Family) (x1:Int) (i1:Nat) (v1:(List Int)) (v2:(List Int)×Int) (i3:Nat) (v3:(List Int)):Dl:=⟨[(38,.int .i64 ((i3:Nat):Int)),(5,.own 20005)],[(20005,.arr 1 v3.length (rowOf (cInt .i64) v3))]⟩
def A107b3 (x0:Family) (x1:Int) (i1:Nat) (v1:(List Int)) (v2:(List Int)×Int) (i3:Nat) (v3:(List Int)):Ann:=r0 1 [2,4,5,6,36,37,38,39] [2,1036,20005] (cn (decide (((i3:Nat):Int)<(((l1Parents x0 v2.2).length:Nat):Int))) (.reg 2 [] [] [2,4,5,6,8,36,37,38,58] [2,1036,20005] [!(decide ((v3.getD (((l1Parents x0 v2.2).getD i3 default).toNat) default)<0)),decide ((v3.getD (((l1Parents x0 v2.2).getD i3 default).toNat) default)<0)] [pf (0≤(((i3:Nat):Int):Int)∧(((i3:Nat):Int):Int)<(((l1Parents x0 v2.2).length:Nat):Int)),pf (0≤(((l1Parents x0 v2.2).getD i3 default):Int)∧(((l1Parents x0 v2.2).getD i3 default):Int)<((v3.length:Nat):Int)),gt (!(decide ((v3.getD (((l1Parents x0 v2.2).getD i3 default).toNat) default)<0))) (pf (0≤(((l1Parents x0 v2.2).getD i3 default):Int)∧(((l1Parents x0 v2.2).getD i3 default):Int)<((v3.length:Nat):Int))),gt (!(decide ((v3.getD (((l1Parents x0 v2.2).getD i3 default).toNat) default)<0))) (pf (0≤(v2.2:Int)∧(v2.2:Int)<((v3.length:Nat):Int))),gt (!(decide ((v3.getD (((l1Parents x0 v2.2).getD i3 default).toNat) default)<0))) (pf (inR .i64 ((v3.getD v2.2.toNat default)+1)))] [] [0,4,1,1,8,1,1,1,12,1,1,16,1,1,6] (cn ((decide ((v3.getD (((l1Parents x0 v2.2).getD i3 default).toNat) default)<0)) || (decide (((v3.getD v2.2.toNat default)+1)<(v3.getD (((l1Parents x0 v2.2).getD i3 default).toNat) default)))) (.reg 1 [] [(8,stL 20005 (cInt .i64) v3 (((l1Parents x0 v2.2).getD i3 default).toNat) ((v3.getD v2.2.toNat default)+1))] [2,4,5,6,36,37,38] [2,1036,20005] [] [pf (0≤(v2.2:Int)∧(v2.2:Int)<((v3.length:Nat):Int)),pf (inR .i64 ((v3.getD v2.2.toNat default)+1)),pf (0≤(((l1Parents x0 v2.2).getD i3 default):Int)∧(((l1Parents x0 v2.2).getD i3 default):Int)<((v3.length:Nat):Int))] [] [0,4,8,12] (r1 1 [2,4,5,6,36,37,38] [2,1036,20005] [pf (inR .i64 (((i3:Nat):Int)+1))] [0] (.next 0 [(20005,some 20005)] (D107b3 x0 x1 i1 v1 v2 (i3+1) (v3.set (((l1Parents x0 v2.2).getD i3 default).toNat) ((v3.getD v2.2.toNat default)+1)))))) (r1 1 [2,4,5,6,36,37,38] [2,1036,20005] [pf (inR .i64 (((i3:Nat):Int)+1))] [0] (.next 0 [(20005,some 20005)] (D107b3 x0 x1 i1 v1 v2 (i3+1) v3))))) (r1 1 [2,4,5,6] [2,20005] [pf (inR .i64 (v2.2 - 1))] [0] (.next 1 [(30005,some 20005)] (D107b2 x0 x1 i1 v1 (v3,v2.2 - 1)))))
def A107b2 (x0:Family) (x1:Int) (i1:Nat) (v1:(List Int)) (v2:(List Int)×Int):Ann:=r0 1 [2,4,5,6,26] [2,30005] (cn (decide (0≤v2.2)) (r1 1 [2,4,5,6,33] [2,30005] [pf (0≤(v2.2:Int)∧(v2.2:Int)<((v2.1.length:Nat):Int))] [0] (cn (decide ((v2.1.getD v2.2.toNat default)<0)) (r1 1 [2,4,5,6] [2,30005] [pf (inR .i64 (v2.2 - 1))] [0] (.next 0 [(30005,some 30005)] (D107b2 x0 x1 i1 v1 (v2.1,v2.2 - 1)))) (.reg 1 [] [(2,k80 x0 v2.2)] [2,4,5,6,36,37,38] [2,1036,30005] [] [] [] [0] (lp (D107b3 x0 x1 i1 v1 v2) [] [30005] [(20005,some 30005)] (D107b3 x0 x1 i1 v1 v2 0 v2.1) (A107b3 x0 x1 i1 v1 v2))))) (r0 1 [4] [30005] (rt [(0,some 30005)] (C107 v2.1))))
def A107b1 (x0:Family) (x1:Int) (i1:Nat) (v1:(List Int)):Ann:=r0 1 [1,2,4,5,12,13,14] [2,20005] (cn (decide (((i1:Nat):Int)<((x0.people.length:Nat):Int))) (.reg 1 [] [(1,bsC 16 (cInt .i64) ([(-1)]:List Int)),(2,ap1 17 (cInt .i64) 8 v1 (-1))] [1,2,4,5,12,13] [2,17] [] [] [] [0,4] (r1 1 [1,2,4,5,12,13] [2,17] [pf (inR .i64 (((i1:Nat):Int)+1))] [0] (.next 0 [(20005,some 17)] (D107b1 x0 x1 (i1+1) (v1++[(-1)]))))) (.reg 1 [] [(3,stL 20005 (cInt .i64) v1 x1.toNat 0)] [2,4,5] [2,20005] [] [pf (0≤(x1:Int)∧(x1:Int)<((v1.length:Nat):Int))] [] [0,4] (r1 1 [2,4,5,6] [2,20005] [pf (inR .i64 ((((v1.set x1.toNat 0).length:Nat):Int) - 1))] [0] (.loop ((List Int)×Int) (D107b2 x0 x1 i1 v1) [] [20005] [(30005,some 20005)] (D107b2 x0 x1 i1 v1 ((v1.set x1.toNat 0),(((v1.set x1.toNat 0).length:Nat):Int) - 1)) (A107b2 x0 x1 i1 v1)))))
def A107 (x0:Family) (x1:Int):Ann:=.reg 2 [] [(1000,bsC 9 (cInt .i64) ([]:List Int))] [1,2,4,5] [2,9] [] [] [] [0] (r0 1 [1,2,4,5,12,13] [2,9] (lp (D107b1 x0 x1) [] [9] [(20005,some 9)] (D107b1 x0 x1 0 ([]:List Int)) (A107b1 x0 x1)))
theorem l8Up_len (x:Family) (p:Int):(l8Up x p).length=x.people.length:=by
 unfold l8Up
 refine loopN_to (fun i (v:List Int)=>v.length=i) (fun (r:List Int)=>r.length=x.people.length) rfl (fun i v next _ hv hn=>hn _ (by simp [hv])) (fun v hv=>?_)
 refine loopW_to (fun (s:List Int×Int)=>s.1.length=x.people.length) (fun s=>(s.2+1).toNat) (fun (r:List Int)=>r.length=x.people.length) (fun s next hs hn=>?_) _ _ (Nat.lt_succ_self _) (by simp [hv])
 cases h1:decide (0≤s.2)
 ·exact hs
 ·have:=of_decide_eq_true h1
  cases decide (s.1.getD s.2.toNat default<0)
  ·refine loopN_to (fun i (v:List Int)=>v.length=x.people.length) (fun (r:List Int)=>r.length=x.people.length) hs (fun i v next _ hv hn=>?_) (fun v hv=>hn _ hv (by simp only;omega))
   cases (_ || _:Bool)
   ·exact hn _ hv
   ·exact hn _ (by simp [hv])
  ·exact hn _ hs (by simp only;omega)
theorem ok_spec_l8Up (x0:Family) (x1:Int) (hx:x0.people.length≤1048576) (hi:0≤x1∧x1<x0.people.length) (hp:∀ (k:Nat),k<x0.people.length→(x0.people.getD k default).father<k∧(x0.people.getD k default).mother<k):FnT Try.prog 107 [.agg (cFamily false x0),.int .i64 x1] (C107 (l8Up x0 x1)):=by
 have aux:∀ R,l8Up x0 x1=R→slim (C107 R) (A107 x0 x1) []:=by
  intro R hR
  refine rg ⟨trivial,trivial⟩ ?_
  refine rg trivial ?_
  revert hR;refine lN (fun i v=>v=List.replicate i (-1)) (by trivial) rfl fun i1 v1 F1 hn1 hI1 hR hK1=>?_
  refine rg trivial ?_
  refine ⟨fun hc1=>?_,fun hc1=>?_⟩
  ·have hii1:i1<x0.people.length:=by have:=of_decide_eq_true hc1;omega
   replace hR:=loopN_step hR hii1
   refine rg ⟨trivial,by (rw [hI1,List.length_replicate];omega),trivial⟩ ?_
   refine rg ⟨by ( intros;simp only [inR];omega),trivial⟩ ?_
   exact hK1 (v1++[(-1)]) hii1 (by (rw [hI1];exact rep_snoc _ _)) hR
  ·obtain rfl:i1=x0.people.length:=by have:=of_decide_eq_false hc1;omega
   replace hR:=loopN_end hR (Nat.lt_irrefl _)
   refine rg ⟨by (rw [hI1,List.length_replicate];omega),by (rw [hI1,List.length_replicate];omega),trivial⟩ ?_
   refine rg ⟨by ((try clear hR hK1);intros;(try simp only [decide_eq_true_eq,decide_eq_false_iff_not,Bool.or_eq_true,Bool.and_eq_true,or_f_iff,not_f_iff,not_t_iff,Bool.not_eq_true',inR] at *);(repeat' apply And.intro) <;> (first | (intros;omega) | (have:=hI1;subst this;simp;omega))),trivial⟩ ?_
   revert hR;refine lW (fun v=>Rg v.1 x0.people.length (fun k v=>-1≤v∧v+k≤x0.people.length)∧-1≤v.2∧v.2<x0.people.length) (fun v=>(v.2+1).toNat) (by ((try clear hR hK1);intros;(try simp only [decide_eq_true_eq,decide_eq_false_iff_not,Bool.or_eq_true,Bool.and_eq_true,or_f_iff,not_f_iff,not_t_iff,Bool.not_eq_true',inR] at *);(repeat' apply And.intro) <;> (first | (intros;omega) | (have:=hI1;subst this;simp;omega) | (subst hI1;exact Rg.set (Rg.rep (fun k hk=>by omega)) (fun _=>by omega))))) (Nat.lt_succ_self _) rfl fun m2 v2 F2 hI2 hM2 hR hK2=>?_
   refine rg trivial ?_
   revert hR;refine cd (fun hc2 hR=>?_) fun hc2 hR=>?_
   ·
     refine rg ⟨by ((try clear hR hK1 hK2);intros;(try simp only [decide_eq_true_eq,decide_eq_false_iff_not,Bool.or_eq_true,Bool.and_eq_true,or_f_iff,not_f_iff,not_t_iff,Bool.not_eq_true',inR] at *);(repeat' apply And.intro) <;> (first | (intros;omega) | (have:=hI2.1.len;omega))),trivial⟩ ?_
     revert hR;refine cd (fun hc3 hR=>?_) fun hc3 hR=>?_
     ·
       refine rg ⟨by ( intros;simp only [inR];omega),trivial⟩ ?_
       exact hK2 (v2.1,v2.2 - 1) (by ((try clear hR hK1 hK2);intros;(try simp only [decide_eq_true_eq,decide_eq_false_iff_not,Bool.or_eq_true,Bool.and_eq_true,or_f_iff,not_f_iff,not_t_iff,Bool.not_eq_true',inR] at *);(repeat' apply And.intro) <;> (first | (intros;omega) | (simp_all [inR];done)))) (by ((try clear hR hK1 hK2);intros;(try simp only [decide_eq_true_eq,decide_eq_false_iff_not,Bool.or_eq_true,Bool.and_eq_true,or_f_iff,not_f_iff,not_t_iff,Bool.not_eq_true',inR] at *);(repeat' apply And.intro) <;> (intros;omega))) hR
     ·
       refine rg ⟨⟨by trivial,by ((try clear hR hK1 hK2);intros;(try simp only [decide_eq_true_eq,decide_eq_false_iff_not,Bool.or_eq_true,Bool.and_eq_true,or_f_iff,not_f_iff,not_t_iff,Bool.not_eq_true',inR] at *);(repeat' apply And.intro) <;> (intros;omega))⟩,trivial⟩ ?_
       have hp1:=l1Parents_rng x0 v2.2
       revert hR;refine lN (fun i v=>Rg v x0.people.length (fun k v=>-1≤v∧v+k≤x0.people.length)∧0≤v2.2∧v2.2<x0.people.length∧0≤v.getD v2.2.toNat default) (by ((try clear hR hK1 hK2);intros;(try simp only [decide_eq_true_eq,decide_eq_false_iff_not,Bool.or_eq_true,Bool.and_eq_true,or_f_iff,not_f_iff,not_t_iff,Bool.not_eq_true',inR] at *);(repeat' apply And.intro) <;> (first | (intros;omega) | (simp_all [inR];done)))) rfl fun i3 v3 F3 hn3 hI3 hR hK3=>?_
       refine rg trivial ?_
       refine ⟨fun hc4=>?_,fun hc4=>?_⟩
       · have hii3:i3<(l1Parents x0 v2.2).length:=by have:=of_decide_eq_true hc4;omega
         replace hR:=loopN_step hR hii3
         refine rg ⟨by (intros;omega),by (have h1:=(l1Parents_rng x0 v2.2).2 i3 hii3;have h2:=hp v2.2.toNat (by omega);have:=hI3.1.len;omega),by (have h1:=(l1Parents_rng x0 v2.2).2 i3 hii3;have h2:=hp v2.2.toNat (by omega);have:=hI3.1.len;omega),by (have:=hI3.1.len;omega),by ((try clear hR hK1 hK2 hK3);intros;(try simp only [decide_eq_true_eq,decide_eq_false_iff_not,Bool.or_eq_true,Bool.and_eq_true,or_f_iff,not_f_iff,not_t_iff,Bool.not_eq_true',inR] at *);(repeat' apply And.intro) <;> (first | (intros;omega) | (have:=hI3.1.get v2.2.toNat (by omega);have:=hI3.1.len;omega))),trivial⟩ ?_
         revert hR;refine cd (fun hc5 hR=>?_) fun hc5 hR=>?_
         ·
           refine rg ⟨by (have:=hI3.1.len;omega),by ((try clear hR hK1 hK2 hK3);intros;(try simp only [decide_eq_true_eq,decide_eq_false_iff_not,Bool.or_eq_true,Bool.and_eq_true,or_f_iff,not_f_iff,not_t_iff,Bool.not_eq_true',inR] at *);(repeat' apply And.intro) <;> (first | (intros;omega) | (have:=hI3.1.get v2.2.toNat (by omega);have:=hI3.1.len;omega))),by (have h1:=(l1Parents_rng x0 v2.2).2 i3 hii3;have h2:=hp v2.2.toNat (by omega);have:=hI3.1.len;omega),by (have h1:=(l1Parents_rng x0 v2.2).2 i3 hii3;have h2:=hp v2.2.toNat (by omega);have:=hI3.1.len;omega),trivial⟩ ?_
           refine rg ⟨by ( intros;simp only [inR];omega),trivial⟩ ?_
           exact hK3 (v3.set (((l1Parents x0 v2.2).getD i3 default).toNat) ((v3.getD v2.2.toNat default)+1)) hii3 (by ((try clear hR hK1 hK2 hK3);intros;(try simp only [decide_eq_true_eq,decide_eq_false_iff_not,Bool.or_eq_true,Bool.and_eq_true,or_f_iff,not_f_iff,not_t_iff,Bool.not_eq_true',inR] at *);(repeat' apply And.intro) <;> (first | (intros;omega) | (have h1:=(l1Parents_rng x0 v2.2).2 i3 hii3;have h2:=hp v2.2.toNat (by omega);have h3:=hI3.1.get v2.2.toNat (by omega);exact Rg.set hI3.1 (fun _=>by omega)) | (have h1:=(l1Parents_rng x0 v2.2).2 i3 hii3;have h2:=hp v2.2.toNat (by omega);have h3:=hI3.1.get v2.2.toNat (by omega);have:=hI3.1.len;rw [getD_set,if_neg (by omega)];omega)))) hR
         ·
           refine rg ⟨by ( intros;simp only [inR];omega),trivial⟩ ?_
           exact hK3 v3 hii3 (by trivial) hR
       · obtain rfl:i3=(l1Parents x0 v2.2).length:=by have:=of_decide_eq_false hc4;omega
         replace hR:=loopN_end hR (Nat.lt_irrefl _)
         refine rg ⟨by ( intros;simp only [inR];omega),trivial⟩ ?_
         exact hK2 (v3,v2.2 - 1) (by ((try clear hR hK1 hK2 hK3);intros;(try simp only [decide_eq_true_eq,decide_eq_false_iff_not,Bool.or_eq_true,Bool.and_eq_true,or_f_iff,not_f_iff,not_t_iff,Bool.not_eq_true',inR] at *);(repeat' apply And.intro) <;> (first | (intros;omega) | (simp_all [inR];done)))) (by (intros;omega)) hR
   ·
     refine rg trivial ?_
     exact congrArg C107 hR
 exact Fn.go 69 Try.func107 (by kernel_rfl) (by kernel_rfl) (by simp [C107,Frs,FrsL,FrsB,rowOf,cInt,cBool,cStr,cSl,FrsL_app,cPerson,cUnion,cFamily]) (A107 x0 x1) (by kernel_rfl) (aux _ rfl)
def k107 (x0:Family) (x1:Int):Cl:=(hres (C107 (l8Up x0 x1)),k3 (ok_spec_l8Up x0 x1))
end Go.Proofs.Ytkkijpibajigfaa
