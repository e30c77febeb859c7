import Derived.Test.YtkkijpibajigfaaVN1
set_option maxHeartbeats 4000000
set_option linter.unusedSimpArgs false
set_option linter.unusedVariables false
namespace Go.Proofs.Ytkkijpibajigfaa
open Go Go.Lite Go.Proofs
def C61 (R:(List (List Int))):LV×List (Nat×BC):=(.own 0,[(0,.nest true 1 R.length (nrOf (cInt .i64) R))])
def l8Lines_r : Nat → Family → Int → Int → Int → (List (List Int))
  | 0,_,_,_,_=>default
  | m+1,x0,x1,x2,x3=>bif (decide (x1=x2)) then [[x2]] else (loopN (fun i1 (v1:(List (List Int))) nx1=>bif (((!decide (((x0.people.getD i1 default).father)=x1)) && (!decide (((x0.people.getD i1 default).mother)=x1))) || (decide (((l8Up x0 x2).getD i1 default)<0))) then (nx1 v1) else (loopN (fun i2 (v2:(List (List Int))) next=>bif (decide (((v2.length:Nat):Int)≤x3)) then (next (v2++[([x1]++((l8Lines_r m x0 ((i1:Nat):Int) x2 x3).getD i2 default))])) else (next v2)) (fun (v2:(List (List Int)))=>nx1 v2) ((l8Lines_r m x0 ((i1:Nat):Int) x2 x3).length) 0 v1)) (fun (v1:(List (List Int)))=>v1) x0.people.length 0 ([]:List (List Int)))
def l8Lines (x0:Family) (x1:Int) (x2:Int) (x3:Int):(List (List Int)):=l8Lines_r 100 x0 x1 x2 x3
def kr61 (m:Nat) (x0:Family) (x1:Int) (x2:Int) (x3:Int):Cl:=(hres (C61 (l8Lines_r m x0 x1 x2 x3)),pf (FnT Try.prog 61 [.agg (cFamily false x0),.int .i64 x1,.int .i64 x2,.int .i64 x3] (C61 (l8Lines_r m x0 x1 x2 x3))))
def D61b1 (m:Nat) (x0:Family) (x1:Int) (x2:Int) (x3:Int) (i1:Nat) (v1:(List (List Int))):Dl:=⟨[(23,.int .i64 ((i1:Nat):Int)),(9,.own 20009)],[(20009,.nest true 1 v1.length (nrOf (cInt .i64) v1))]⟩
def D61b2 (m:Nat) (x0:Family) (x1:Int) (x2:Int) (x3:Int) (i1:Nat) (v1:(List (List Int))) (i2:Nat) (v2:(List (List Int))):Dl:=⟨[(59,.int .i64 ((i2:Nat):Int)),(9,.own 30009)],[(30009,.nest true 1 v2.length (nrOf (cInt .i64) v2))]⟩
def A61b2 (m:Nat) (x0:Family) (x1:Int) (x2:Int) (x3:Int) (i1:Nat) (v1:(List (List Int))) (i2:Nat) (v2:(List (List Int))):Ann:=r0 1 [1,2,3,4,8,9,22,23,57,58,59,60] [4,30009] (cn (decide (((i2:Nat):Int)<(((l8Lines_r m x0 ((i1:Nat):Int) x2 x3).length:Nat):Int))) (r1 2 [1,2,3,4,8,9,12,22,23,57,58,59,66] [4,30009] [pf (0≤(((i2:Nat):Int):Int)∧(((i2:Nat):Int):Int)<(((l8Lines_r m x0 ((i1:Nat):Int) x2 x3).length:Nat):Int))] [0] (cn (decide (((v2.length:Nat):Int)≤x3)) (.reg 1 [] [(2,bsC 69 (cInt .i64) ([x1]:List Int)),(4,apC 71 (cInt .i64) 8 [x1] ((l8Lines_r m x0 ((i1:Nat):Int) x2 x3).getD i2 default)),(5,nB1 (cInt .i64) ([x1]++((l8Lines_r m x0 ((i1:Nat):Int) x2 x3).getD i2 default))),(6,nA1 (cInt .i64) v2 ([x1]++((l8Lines_r m x0 ((i1:Nat):Int) x2 x3).getD i2 default)) 24)] [1,2,3,4,8,9,22,23,57,58,59] [4,73] [] [] [] [0,4,8,12] (r1 1 [1,2,3,4,8,9,22,23,57,58,59] [4,73] [pf (inR .i64 (((i2:Nat):Int)+1))] [0] (.next 0 [(30009,some 73)] (D61b2 m x0 x1 x2 x3 i1 v1 (i2+1) (v2++[([x1]++((l8Lines_r m x0 ((i1:Nat):Int) x2 x3).getD i2 default))]))))) (r1 1 [1,2,3,4,8,9,22,23,57,58,59] [4,30009] [pf (inR .i64 (((i2:Nat):Int)+1))] [0] (.next 0 [(30009,some 30009)] (D61b2 m x0 x1 x2 x3 i1 v1 (i2+1) v2))))) (r1 1 [1,2,3,4,8,9,22,23] [4,30009] [pf (inR .i64 (((i1:Nat):Int)+1))] [0] (.next 1 [(20009,some 30009)] (D61b1 m x0 x1 x2 x3 (i1+1) v2))))
def A61b1 (m:Nat) (x0:Family) (x1:Int) (x2:Int) (x3:Int) (i1:Nat) (v1:(List (List Int))):Ann:=r0 1 [1,2,3,4,8,9,22,23,24] [4,20009] (cn (decide (((i1:Nat):Int)<((x0.people.length:Nat):Int))) (r0 1 [1,2,3,4,8,9,10,22,23] [4,20009] (.reg 1 [] [(21,cg (!((!decide (((x0.people.getD i1 default).father)=x1)) && (!decide (((x0.people.getD i1 default).mother)=x1)))) (k107 x0 x2))] [1,2,3,4,8,9,10,22,23,52] [4,20009] [!decide (((x0.people.getD i1 default).father)=x1),!((!decide (((x0.people.getD i1 default).father)=x1)) && (!decide (((x0.people.getD i1 default).mother)=x1))),(!decide (((x0.people.getD i1 default).father)=x1)) && (!decide (((x0.people.getD i1 default).mother)=x1))] [pf (0≤(((i1:Nat):Int):Int)∧(((i1:Nat):Int):Int)<((x0.people.length:Nat):Int)),gt (!decide (((x0.people.getD i1 default).father)=x1)) (pf (0≤(((i1:Nat):Int):Int)∧(((i1:Nat):Int):Int)<((x0.people.length:Nat):Int))),gt (!((!decide (((x0.people.getD i1 default).father)=x1)) && (!decide (((x0.people.getD i1 default).mother)=x1)))) (pf (0≤(((i1:Nat):Int):Int)∧(((i1:Nat):Int):Int)<(((l8Up x0 x2).length:Nat):Int)))] [] [0,1,1,1,4,1,1,1,1,1,5,5,12,5,5,8,5,5,10] (cn (((!decide (((x0.people.getD i1 default).father)=x1)) && (!decide (((x0.people.getD i1 default).mother)=x1))) || (decide (((l8Up x0 x2).getD i1 default)<0))) (r1 1 [1,2,3,4,8,9,22,23] [4,20009] [pf (inR .i64 (((i1:Nat):Int)+1))] [0] (.next 0 [(20009,some 20009)] (D61b1 m x0 x1 x2 x3 (i1+1) v1))) (.reg 1 [] [(4,kr61 m x0 ((i1:Nat):Int) x2 x3)] [1,2,3,4,8,9,22,23,57,58,59] [4,1057,20009] [] [] [] [0] (.fits [] [1057] [] ⟨[(57,.ro true 1 ((l8Lines_r m x0 ((i1:Nat):Int) x2 x3).length) (rowOf (cSl true 1 (cInt .i64)) (l8Lines_r m x0 ((i1:Nat):Int) x2 x3)))],[]⟩ (lp (D61b2 m x0 x1 x2 x3 i1 v1) [] [20009] [(30009,some 20009)] (D61b2 m x0 x1 x2 x3 i1 v1 0 v1) (A61b2 m x0 x1 x2 x3 i1 v1))))))) (r0 1 [8] [20009] (rt [(0,some 20009)] (C61 v1))))
def A61 (m:Nat) (x0:Family) (x1:Int) (x2:Int) (x3:Int):Ann:=r0 1 [1,2,3,4,8] [4] (r0 1 [1,2,3,4,8,15] [4] (cn (decide (x1=x2)) (.reg 1 [] [(1,bsC 17 (cInt .i64) ([x2]:List Int)),(2,nB1 (cInt .i64) [x2])] [1,2,3,4,8] [4,18] [] [] [] [0,4] (rt [(0,some 18)] (C61 [[x2]]))) (.reg 1 [] [(0,nB0 (cInt .i64) 1)] [1,2,3,4,8,9] [4,19] [] [] [] [0] (r0 1 [1,2,3,4,8,9,22,23] [4,19] (lp (D61b1 m x0 x1 x2 x3) [] [19] [(20009,some 19)] (D61b1 m x0 x1 x2 x3 0 ([]:List (List Int))) (A61b1 m x0 x1 x2 x3))))))
theorem l8Lines_bd : ∀ (m : Nat) (f : Family) (q p k : Int), 0 ≤ k → 0 ≤ q ∧ q < f.people.length → (∀ (k : Nat), k < f.people.length → (f.people.getD k default).father < k ∧ (f.people.getD k default).mother < k) → LJ (f.people.length - q.toNat) (k.toNat + 1) (l8Lines_r m f q p k)
  | 0,_,_,_,_,_,_,_=>LJ.nil _ _
  | m+1,f,q,p,k,hk,hq,hp=>by
    rw [l8Lines_r]
    refine cond_both (p:=fun (r:List (List Int))=>LJ (f.people.length - q.toNat) (k.toNat+1) r) (fun _=>⟨by simp,fun y hy=>by rw [List.mem_singleton.1 hy];simp;omega⟩) (fun _=>?_)
    refine loopN_to (fun i (v:List (List Int))=>LJ (f.people.length - q.toNat) (k.toNat+1) v) (fun (r:List (List Int))=>LJ (f.people.length - q.toNat) (k.toNat+1) r) (LJ.nil _ _) (fun i v nx hi hv hn=>?_) (fun v hv=>hv)
    refine cond_both (p:=fun (r:List (List Int))=>LJ (f.people.length - q.toNat) (k.toNat+1) r) (fun _=>hn _ hv) (fun c=>?_)
    have hpp:=hp i hi
    have hqi:q<i:=by
      rw [or_f_iff,and_f_iff] at c
      have:=c.1
      simp only [Bool.not_eq_true',decide_eq_false_iff_not,Bool.not_eq_false',decide_eq_true_eq] at this
      omega
    have hb:=l8Lines_bd m f ((i:Nat):Int) p k hk (by omega) hp
    refine loopN_to (fun j (w:List (List Int))=>LJ (f.people.length - q.toNat) (k.toNat+1) w) (fun (r:List (List Int))=>LJ (f.people.length - q.toNat) (k.toNat+1) r) hv (fun j w next hj hw hn2=>?_) (fun w hw=>hn w hw)
    refine cond_both (p:=fun (r:List (List Int))=>LJ (f.people.length - q.toNat) (k.toNat+1) r) (fun c2=>hn2 _ ?_) (fun _=>hn2 _ hw)
    have c2:=of_decide_eq_true c2
    refine (hw.push (y:=[q]++(l8Lines_r m f ((i:Nat):Int) p k).getD j default) ?_).mono (by rw [List.length_append,List.length_singleton];omega)
    have:=hb.at j
    rw [List.length_append,List.length_singleton]
    show 1+((l8Lines_r m f ((i:Nat):Int) p k).getD j []).length≤_
    omega

theorem ok_spec_l8Lines (x0:Family) (x1:Int) (x2:Int) (x3:Int) (hn:x0.people.length≤40) (hi:0≤x1∧x1<x0.people.length) (hj:0≤x2∧x2<x0.people.length) (hp:∀ (k:Nat),k<x0.people.length→(x0.people.getD k default).father<k∧(x0.people.getD k default).mother<k) (hm0:0≤x3∧x3≤100):FnT Try.prog 61 [.agg (cFamily false x0),.int .i64 x1,.int .i64 x2,.int .i64 x3] (C61 (l8Lines x0 x1 x2 x3)):=by
 have all:∀ (m:Nat) (x0:Family) (x1:Int) (x2:Int) (x3:Int) (hn:x0.people.length≤40) (hi:0≤x1∧x1<x0.people.length) (hj:0≤x2∧x2<x0.people.length) (hp:∀ (k:Nat),k<x0.people.length→(x0.people.getD k default).father<k∧(x0.people.getD k default).mother<k) (hm0:0≤x3∧x3≤100) (hm:((x0.people.length:Int) - x1).toNat<m),FnT Try.prog 61 [.agg (cFamily false x0),.int .i64 x1,.int .i64 x2,.int .i64 x3] (C61 (l8Lines_r m x0 x1 x2 x3)):=by
  intro m;induction m
  ·intros;exact absurd (by assumption) (Nat.not_lt_zero _)
  rename_i m ih
  intro x0 x1 x2 x3 hn hi hj hp hm0 hm
  have aux:∀ R,l8Lines_r (m+1) x0 x1 x2 x3=R→slim (C61 R) (A61 m x0 x1 x2 x3) []:=by
   intro R hR
   rw [l8Lines_r] at hR
   refine rg trivial ?_
   refine rg trivial ?_
   revert hR;refine cd (fun hc1 hR=>?_) fun hc1 hR=>?_
   ·
     refine rg ⟨trivial,trivial,trivial⟩ ?_
     exact congrArg C61 hR
   ·
     refine rg ⟨trivial,trivial⟩ ?_
     refine rg trivial ?_
     revert hR;refine lN (fun i v=>LJ (x0.people.length - x1.toNat) (x3.toNat+1) v) (by (exact LJ.nil _ _)) rfl fun i1 v1 F1 hn1 hI1 hR hK1=>?_
     refine rg trivial ?_
     refine ⟨fun hc2=>?_,fun hc2=>?_⟩
     · have hii1:i1<x0.people.length:=by have:=of_decide_eq_true hc2;omega
       replace hR:=loopN_step hR hii1
       refine rg trivial ?_
       refine rg ⟨by (intros;omega),by (intros;omega),by (intros;have h7:=l8Up_len x0 x2;(try simp only [inR]);omega),fun hg0=>⟨by (intros;omega),by with_reducible assumption,by with_reducible assumption⟩,trivial⟩ ?_
       have hp1:=l8Up_len x0 x2
       revert hR;refine cd (fun hc3 hR=>?_) fun hc3 hR=>?_
       ·
         refine rg ⟨by (intros;have h7:=l8Up_len x0 x2;(try simp only [inR]);omega),trivial⟩ ?_
         exact hK1 v1 hii1 (by with_reducible assumption) hR
       ·
         refine rg ⟨ih x0 ((i1:Nat):Int) x2 x3 (by with_reducible assumption) (by (intros;omega)) (by with_reducible assumption) (by with_reducible assumption) (by with_reducible assumption) (by (have h7:=hp i1 hii1;have h6:x1<i1:=(by have h9:=hc3;rw [or_f_iff,and_f_iff] at h9;have h8:=h9.1;simp only [Bool.not_eq_true',decide_eq_false_iff_not,Bool.not_eq_false',decide_eq_true_eq] at h8;omega);omega)),trivial⟩ ?_
         refine ft ?_
         revert hR;refine lN (fun i v=>LJ (x0.people.length - x1.toNat) (x3.toNat+1) v) (by with_reducible assumption) rfl fun i2 v2 F2 hn2 hI2 hR hK2=>?_
         refine rg trivial ?_
         refine ⟨fun hc4=>?_,fun hc4=>?_⟩
         · have hii2:i2<(l8Lines_r m x0 ((i1:Nat):Int) x2 x3).length:=by have:=of_decide_eq_true hc4;omega
           replace hR:=loopN_step hR hii2
           refine rg ⟨by (intros;omega),trivial⟩ ?_
           revert hR;refine cd (fun hc5 hR=>?_) fun hc5 hR=>?_
           ·
             refine rg ⟨trivial,by (have h7:=hp i1 hii1;have h6:x1<i1:=(by have h9:=hc3;rw [or_f_iff,and_f_iff] at h9;have h8:=h9.1;simp only [Bool.not_eq_true',decide_eq_false_iff_not,Bool.not_eq_false',decide_eq_true_eq] at h8;omega);have h5:=l8Lines_bd m x0 ((i1:Nat):Int) x2 x3 hm0.1 (by omega) hp;have h4:((l8Lines_r m x0 ((i1:Nat):Int) x2 x3).getD i2 default).length≤x0.people.length - i1:=h5.at i2;have h3:=hI2.1;have h2:=h5.1;(try simp only [inR,List.length_singleton]);omega),trivial,by (have h7:=hp i1 hii1;have h6:x1<i1:=(by have h9:=hc3;rw [or_f_iff,and_f_iff] at h9;have h8:=h9.1;simp only [Bool.not_eq_true',decide_eq_false_iff_not,Bool.not_eq_false',decide_eq_true_eq] at h8;omega);have h5:=l8Lines_bd m x0 ((i1:Nat):Int) x2 x3 hm0.1 (by omega) hp;have h4:=h5.at i2;have h3:=hI2.1;have h2:=h5.1;(try simp only [inR]);omega),trivial⟩ ?_
             refine rg ⟨by (have h7:=hp i1 hii1;have h6:x1<i1:=(by have h9:=hc3;rw [or_f_iff,and_f_iff] at h9;have h8:=h9.1;simp only [Bool.not_eq_true',decide_eq_false_iff_not,Bool.not_eq_false',decide_eq_true_eq] at h8;omega);have h5:=l8Lines_bd m x0 ((i1:Nat):Int) x2 x3 hm0.1 (by omega) hp;have h4:=h5.at i2;have h3:=hI2.1;have h2:=h5.1;(try simp only [inR]);omega),trivial⟩ ?_
             exact hK2 (v2++[([x1]++((l8Lines_r m x0 ((i1:Nat):Int) x2 x3).getD i2 default))]) hii2 (by (have h7:=hp i1 hii1;have h6:x1<i1:=(by have h9:=hc3;rw [or_f_iff,and_f_iff] at h9;have h8:=h9.1;simp only [Bool.not_eq_true',decide_eq_false_iff_not,Bool.not_eq_false',decide_eq_true_eq] at h8;omega);have h5:=l8Lines_bd m x0 ((i1:Nat):Int) x2 x3 hm0.1 (by omega) hp;have h4:((l8Lines_r m x0 ((i1:Nat):Int) x2 x3).getD i2 default).length≤x0.people.length - i1:=h5.at i2;refine (hI2.push ?_).mono ?_ <;> (rw [List.length_append,List.length_singleton];simp only [decide_eq_true_eq] at *;omega))) hR
           ·
             refine rg ⟨by (have h7:=hp i1 hii1;have h6:x1<i1:=(by have h9:=hc3;rw [or_f_iff,and_f_iff] at h9;have h8:=h9.1;simp only [Bool.not_eq_true',decide_eq_false_iff_not,Bool.not_eq_false',decide_eq_true_eq] at h8;omega);have h5:=l8Lines_bd m x0 ((i1:Nat):Int) x2 x3 hm0.1 (by omega) hp;have h4:=h5.at i2;have h3:=hI2.1;have h2:=h5.1;(try simp only [inR]);omega),trivial⟩ ?_
             exact hK2 v2 hii2 (by with_reducible assumption) hR
         · obtain rfl:i2=(l8Lines_r m x0 ((i1:Nat):Int) x2 x3).length:=by have:=of_decide_eq_false hc4;omega
           replace hR:=loopN_end hR (Nat.lt_irrefl _)
           refine rg ⟨by (intros;have h7:=l8Up_len x0 x2;(try simp only [inR]);omega),trivial⟩ ?_
           exact hK1 v2 hii1 (by with_reducible assumption) hR
     · obtain rfl:i1=x0.people.length:=by have:=of_decide_eq_false hc2;omega
       replace hR:=loopN_end hR (Nat.lt_irrefl _)
       refine rg trivial ?_
       exact congrArg C61 hR
  exact Fn.go 77 Try.func61 (by kernel_rfl) (by kernel_rfl) (by simp [C61,FrsN,nrOf,Frs,FrsL,FrsB,rowOf,cInt,cBool,cStr,cSl,FrsL_app,cPerson,cUnion,cFamily,cDyad]) (A61 m x0 x1 x2 x3) (by kernel_rfl) (aux _ rfl)
 exact all 100 x0 x1 x2 x3 hn hi hj hp hm0 (by omega)
def k61 (x0:Family) (x1:Int) (x2:Int) (x3:Int):Cl:=(hres (C61 (l8Lines x0 x1 x2 x3)),k5 (ok_spec_l8Lines x0 x1 x2 x3))
end Go.Proofs.Ytkkijpibajigfaa
