import Derived.Test.YtaageiiodlfeiaaVN1
set_option maxHeartbeats 4000000
set_option linter.unusedSimpArgs false
set_option linter.unusedVariables false
namespace Go.Proofs.Ytaageiiodlfeiaa
open Go Go.Lite Go.Proofs
def C109 (R:(List (List Int))):LV×List (Nat×BC):=(.own 0,[(0,.nest true 1 R.length (nrOf (cInt .i64) R))])
def zcn : Nat → Family → Int → Int → Int → (List (List Int))
  | 0,_,_,_,_=>default
  | m+1,x0,x1,x2,x3=>bif (decide (x1=x2)) then [[x2]] else (loopN (fun i1 (v1:(List (List Int))) nx1=>bif (((!decide (((x0.people.getD i1 default).father)=x1))&&(!decide (((x0.people.getD i1 default).mother)=x1)))||(decide (((l8Up x0 x2).getD i1 default)<0))) then (nx1 v1) else (loopN (fun i2 (v2:(List (List Int))) next=>bif (decide (((v2.length:Nat):Int)≤x3)) then (next (v2++[([x1]++((zcn m x0 ((i1:Nat):Int) x2 x3).getD i2 default))])) else (next v2)) (fun (v2:(List (List Int)))=>nx1 v2) ((zcn m x0 ((i1:Nat):Int) x2 x3).length) 0 v1)) (fun (v1:(List (List Int)))=>v1) x0.people.length 0 ([]:List (List Int)))
def zil (x0:Family) (x1:Int) (x2:Int) (x3:Int):(List (List Int)):=zcn 100 x0 x1 x2 x3
def kr109 (m:Nat) (x0:Family) (x1:Int) (x2:Int) (x3:Int):Cl:=(hres (C109 (zcn m x0 x1 x2 x3)),pf (FnT Try.prog 109 [.agg (zce false x0),.int .i64 x1,.int .i64 x2,.int .i64 x3] (C109 (zcn m x0 x1 x2 x3))))
def zvi (m:Nat) (x0:Family) (x1:Int) (x2:Int) (x3:Int) (i1:Nat) (v1:(List (List Int))):Dl:=⟨[(23,.int .i64 ((i1:Nat):Int)),(9,.own 20009)],[(20009,.nest true 1 v1.length (nrOf (cInt .i64) v1))]⟩
def zvh (m:Nat) (x0:Family) (x1:Int) (x2:Int) (x3:Int) (i1:Nat) (v1:(List (List Int))) (i2:Nat) (v2:(List (List Int))):Dl:=⟨[(59,.int .i64 ((i2:Nat):Int)),(9,.own 30009)],[(30009,.nest true 1 v2.length (nrOf (cInt .i64) v2))]⟩
def A109b2 (m:Nat) (x0:Family) (x1:Int) (x2:Int) (x3:Int) (i1:Nat) (v1:(List (List Int))) (i2:Nat) (v2:(List (List Int))):Ann:=r0 1 [1,2,3,4,8,9,22,23,57,58,59,60] [4,30009] (cn (decide (((i2:Nat):Int)<(((zcn m x0 ((i1:Nat):Int) x2 x3).length:Nat):Int))) (r1 2 [1,2,3,4,8,9,12,22,23,57,58,59,66] [4,30009] [pf (0≤(((i2:Nat):Int):Int)∧(((i2:Nat):Int):Int)<(((zcn m x0 ((i1:Nat):Int) x2 x3).length:Nat):Int))] [0] (cn (decide (((v2.length:Nat):Int)≤x3)) (.reg 1 [] [(2,bsC 69 (cInt .i64) ([x1]:List Int)),(4,apC 71 (cInt .i64) 8 [x1] ((zcn m x0 ((i1:Nat):Int) x2 x3).getD i2 default)),(5,nB1 (cInt .i64) ([x1]++((zcn m x0 ((i1:Nat):Int) x2 x3).getD i2 default))),(6,nA1 (cInt .i64) v2 ([x1]++((zcn m x0 ((i1:Nat):Int) x2 x3).getD i2 default)) 24)] [1,2,3,4,8,9,22,23,57,58,59] [4,73] [] [] [] [0,4,8,12] (r1 1 [1,2,3,4,8,9,22,23,57,58,59] [4,73] [pf (inR .i64 (((i2:Nat):Int)+1))] [0] (.next 0 [(30009,some 73)] (zvh m x0 x1 x2 x3 i1 v1 (i2+1) (v2++[([x1]++((zcn m x0 ((i1:Nat):Int) x2 x3).getD i2 default))]))))) (r1 1 [1,2,3,4,8,9,22,23,57,58,59] [4,30009] [pf (inR .i64 (((i2:Nat):Int)+1))] [0] (.next 0 [(30009,some 30009)] (zvh m x0 x1 x2 x3 i1 v1 (i2+1) v2))))) (r1 1 [1,2,3,4,8,9,22,23] [4,30009] [pf (inR .i64 (((i1:Nat):Int)+1))] [0] (.next 1 [(20009,some 30009)] (zvi m x0 x1 x2 x3 (i1+1) v2))))
def A109b1 (m:Nat) (x0:Family) (x1:Int) (x2:Int) (x3:Int) (i1:Nat) (v1:(List (List Int))):Ann:=r0 1 [1,2,3,4,8,9,22,23,24] [4,20009] (cn (decide (((i1:Nat):Int)<((x0.people.length:Nat):Int))) (r0 1 [1,2,3,4,8,9,10,22,23] [4,20009] (.reg 1 [] [(21,cg (!((!decide (((x0.people.getD i1 default).father)=x1))&&(!decide (((x0.people.getD i1 default).mother)=x1)))) (k108 x0 x2))] [1,2,3,4,8,9,10,22,23,52] [4,20009] [!decide (((x0.people.getD i1 default).father)=x1),!((!decide (((x0.people.getD i1 default).father)=x1))&&(!decide (((x0.people.getD i1 default).mother)=x1))),(!decide (((x0.people.getD i1 default).father)=x1))&&(!decide (((x0.people.getD i1 default).mother)=x1))] [pf (0≤(((i1:Nat):Int):Int)∧(((i1:Nat):Int):Int)<((x0.people.length:Nat):Int)),gt (!decide (((x0.people.getD i1 default).father)=x1)) (pf (0≤(((i1:Nat):Int):Int)∧(((i1:Nat):Int):Int)<((x0.people.length:Nat):Int))),gt (!((!decide (((x0.people.getD i1 default).father)=x1))&&(!decide (((x0.people.getD i1 default).mother)=x1)))) (pf (0≤(((i1:Nat):Int):Int)∧(((i1:Nat):Int):Int)<(((l8Up x0 x2).length:Nat):Int)))] [] [0,1,1,1,4,1,1,1,1,1,5,5,12,5,5,8,5,5,10] (cn (((!decide (((x0.people.getD i1 default).father)=x1))&&(!decide (((x0.people.getD i1 default).mother)=x1)))||(decide (((l8Up x0 x2).getD i1 default)<0))) (r1 1 [1,2,3,4,8,9,22,23] [4,20009] [pf (inR .i64 (((i1:Nat):Int)+1))] [0] (.next 0 [(20009,some 20009)] (zvi m x0 x1 x2 x3 (i1+1) v1))) (.reg 1 [] [(4,kr109 m x0 ((i1:Nat):Int) x2 x3)] [1,2,3,4,8,9,22,23,57,58,59] [4,1057,20009] [] [] [] [0] (.fits [] [1057] [] ⟨[(57,.ro true 1 ((zcn m x0 ((i1:Nat):Int) x2 x3).length) (rowOf (cSl true 1 (cInt .i64)) (zcn m x0 ((i1:Nat):Int) x2 x3)))],[]⟩ (lp (zvh m x0 x1 x2 x3 i1 v1) [] [20009] [(30009,some 20009)] (zvh m x0 x1 x2 x3 i1 v1 0 v1) (A109b2 m x0 x1 x2 x3 i1 v1))))))) (r0 1 [8] [20009] (rt [(0,some 20009)] (C109 v1))))
def A109 (m:Nat) (x0:Family) (x1:Int) (x2:Int) (x3:Int):Ann:=r0 1 [1,2,3,4,8] [4] (r0 1 [1,2,3,4,8,15] [4] (cn (decide (x1=x2)) (.reg 1 [] [(1,bsC 17 (cInt .i64) ([x2]:List Int)),(2,nB1 (cInt .i64) [x2])] [1,2,3,4,8] [4,18] [] [] [] [0,4] (rt [(0,some 18)] (C109 [[x2]]))) (.reg 1 [] [(0,nB0 (cInt .i64) 1)] [1,2,3,4,8,9] [4,19] [] [] [] [0] (r0 1 [1,2,3,4,8,9,22,23] [4,19] (lp (zvi m x0 x1 x2 x3) [] [19] [(20009,some 19)] (zvi m x0 x1 x2 x3 0 ([]:List (List Int))) (A109b1 m x0 x1 x2 x3))))))
theorem zfc : ∀ (m : Nat) (f : Family) (q p k : Int), 0 ≤ k → 0 ≤ q ∧ q < f.people.length → (∀ (k : Nat), k < f.people.length → (f.people.getD k default).father < k ∧ (f.people.getD k default).mother < k) → LJ (f.people.length - q.toNat) (k.toNat + 1) (zcn m f q p k)
  | 0,_,_,_,_,_,_,_=>LJ.nil _ _
  | m+1,f,q,p,k,hk,hq,hp=>by
    rw [zcn]
    refine zbz (p:=fun (r:List (List Int))=>LJ (f.people.length - q.toNat) (k.toNat+1) r) (fun _=>⟨by simp,fun y hy=>by rw [List.mem_singleton.1 hy];simp;omega⟩) (fun _=>?_)
    refine zcc (fun i (v:List (List Int))=>LJ (f.people.length - q.toNat) (k.toNat+1) v) (fun (r:List (List Int))=>LJ (f.people.length - q.toNat) (k.toNat+1) r) (LJ.nil _ _) (fun i v nx hi hv hn=>?_) (fun v hv=>hv)
    refine zbz (p:=fun (r:List (List Int))=>LJ (f.people.length - q.toNat) (k.toNat+1) r) (fun _=>hn _ hv) (fun c=>?_)
    have hpp:=hp i hi
    have hqi:q<i:=by
      rw [zbr,zfq] at c
      have:=c.1
      simp only [Bool.not_eq_true',decide_eq_false_iff_not,Bool.not_eq_false',decide_eq_true_eq] at this
      omega
    have hb:=zfc m f ((i:Nat):Int) p k hk om hp
    refine zcc (fun j (w:List (List Int))=>LJ (f.people.length - q.toNat) (k.toNat+1) w) (fun (r:List (List Int))=>LJ (f.people.length - q.toNat) (k.toNat+1) r) hv (fun j w next hj hw hn2=>?_) (fun w hw=>hn w hw)
    refine zbz (p:=fun (r:List (List Int))=>LJ (f.people.length - q.toNat) (k.toNat+1) r) (fun c2=>hn2 _ ?_) (fun _=>hn2 _ hw)
    have c2:=of_decide_eq_true c2
    refine (hw.push (y:=[q]++(zcn m f ((i:Nat):Int) p k).getD j default) ?_).mono (by rw [List.length_append,List.length_singleton];omega)
    have:=hb.at j
    rw [List.length_append,List.length_singleton]
    show 1+((zcn m f ((i:Nat):Int) p k).getD j []).length≤_
    omega

theorem zmx (x0:Family) (x1:Int) (x2:Int) (x3:Int) (hn:x0.people.length≤40) (hi:0≤x1∧x1<x0.people.length) (hj:0≤x2∧x2<x0.people.length) (hp:∀ (k:Nat),k<x0.people.length→(x0.people.getD k default).father<k∧(x0.people.getD k default).mother<k) (hm0:0≤x3∧x3≤100):FnT Try.prog 109 [.agg (zce false x0),.int .i64 x1,.int .i64 x2,.int .i64 x3] (C109 (zil x0 x1 x2 x3)):=by
 have all:∀ (m:Nat) (x0:Family) (x1:Int) (x2:Int) (x3:Int) (hn:x0.people.length≤40) (hi:0≤x1∧x1<x0.people.length) (hj:0≤x2∧x2<x0.people.length) (hp:∀ (k:Nat),k<x0.people.length→(x0.people.getD k default).father<k∧(x0.people.getD k default).mother<k) (hm0:0≤x3∧x3≤100) (hm:((x0.people.length:Int) - x1).toNat<m),FnT Try.prog 109 [.agg (zce false x0),.int .i64 x1,.int .i64 x2,.int .i64 x3] (C109 (zcn m x0 x1 x2 x3)):=by
  intro m;induction m
  ·intros;exact absurd zbf (Nat.not_lt_zero _)
  rename_i m ih
  intro x0 x1 x2 x3 hn hi hj hp hm0 hm
  have aux:∀ R,zcn (m+1) x0 x1 x2 x3=R→slim (C109 R) (A109 m x0 x1 x2 x3) []:=by
   intro R hR
   rw [zcn] at hR
   refine rg trivial ?_
   refine rg trivial ?_
   revert hR;refine cd (fun hc1 hR=>?_) fun hc1 hR=>?_
   ·
     refine rg ⟨trivial,trivial,trivial⟩ ?_
     exact congrArg C109 hR
   ·
     refine rg ⟨trivial,trivial⟩ ?_
     refine rg trivial ?_
     revert hR;refine lN (fun i v=>LJ (x0.people.length - x1.toNat) (x3.toNat+1) v) (by (exact LJ.nil _ _)) rfl fun i1 v1 F1 hn1 hI1 hR hK1=>?_
     refine rg trivial ?_
     refine ⟨fun hc2=>?_,fun hc2=>?_⟩
     · have hii1:i1<x0.people.length:=by have:=of_decide_eq_true hc2;omega
       replace hR:=zb0 hR hii1
       refine rg trivial ?_
       refine rg ⟨by (intros;omega),by (intros;omega),by (intros;have h7:=zgq x0 x2;(try simp only [inR]);omega),fun hg0=>⟨by (intros;omega),by with_reducible assumption,by with_reducible assumption⟩,trivial⟩ ?_
       have hp1:=zgq x0 x2
       revert hR;refine cd (fun hc3 hR=>?_) fun hc3 hR=>?_
       ·
         refine rg ⟨by (intros;have h7:=zgq x0 x2;(try simp only [inR]);omega),trivial⟩ ?_
         exact hK1 v1 hii1 zas hR
       ·
         refine rg ⟨ih x0 ((i1:Nat):Int) x2 x3 zas zaw zas zas zas (by (have h7:=hp i1 hii1;have h6:x1<i1:=zao;omega)),trivial⟩ ?_
         refine ft ?_
         revert hR;refine lN (fun i v=>LJ (x0.people.length - x1.toNat) (x3.toNat+1) v) zas rfl fun i2 v2 F2 hn2 hI2 hR hK2=>?_
         refine rg trivial ?_
         refine ⟨fun hc4=>?_,fun hc4=>?_⟩
         · have hii2:i2<(zcn m x0 ((i1:Nat):Int) x2 x3).length:=by have:=of_decide_eq_true hc4;omega
           replace hR:=zb0 hR hii2
           refine rg ⟨by (intros;omega),trivial⟩ ?_
           revert hR;refine cd (fun hc5 hR=>?_) fun hc5 hR=>?_
           ·
             refine rg ⟨trivial,by (have h7:=hp i1 hii1;have h6:x1<i1:=zao;have h5:=zfc m x0 ((i1:Nat):Int) x2 x3 hm0.1 om hp;have h4:((zcn m x0 ((i1:Nat):Int) x2 x3).getD i2 default).length≤x0.people.length - i1:=h5.at i2;have h3:=hI2.1;have h2:=h5.1;(try simp only [inR,List.length_singleton]);omega),trivial,by (have h7:=hp i1 hii1;have h6:x1<i1:=zao;have h5:=zfc m x0 ((i1:Nat):Int) x2 x3 hm0.1 om hp;have h4:=h5.at i2;have h3:=hI2.1;have h2:=h5.1;(try simp only [inR]);omega),trivial⟩ ?_
             refine rg ⟨by (have h7:=hp i1 hii1;have h6:x1<i1:=zao;have h5:=zfc m x0 ((i1:Nat):Int) x2 x3 hm0.1 om hp;have h4:=h5.at i2;have h3:=hI2.1;have h2:=h5.1;(try simp only [inR]);omega),trivial⟩ ?_
             exact hK2 (v2++[([x1]++((zcn m x0 ((i1:Nat):Int) x2 x3).getD i2 default))]) hii2 (by (have h7:=hp i1 hii1;have h6:x1<i1:=zao;have h5:=zfc m x0 ((i1:Nat):Int) x2 x3 hm0.1 om hp;have h4:((zcn m x0 ((i1:Nat):Int) x2 x3).getD i2 default).length≤x0.people.length - i1:=h5.at i2;refine (hI2.push ?_).mono ?_<;>(rw [List.length_append,List.length_singleton];simp only [decide_eq_true_eq] at *;omega))) hR
           ·
             refine rg ⟨by (have h7:=hp i1 hii1;have h6:x1<i1:=zao;have h5:=zfc m x0 ((i1:Nat):Int) x2 x3 hm0.1 om hp;have h4:=h5.at i2;have h3:=hI2.1;have h2:=h5.1;(try simp only [inR]);omega),trivial⟩ ?_
             exact hK2 v2 hii2 zas hR
         · obtain rfl:i2=(zcn m x0 ((i1:Nat):Int) x2 x3).length:=by have:=of_decide_eq_false hc4;omega
           replace hR:=zb4 hR (Nat.lt_irrefl _)
           refine rg ⟨by (intros;have h7:=zgq x0 x2;(try simp only [inR]);omega),trivial⟩ ?_
           exact hK1 v2 hii1 zas hR
     · obtain rfl:i1=x0.people.length:=by have:=of_decide_eq_false hc2;omega
       replace hR:=zb4 hR (Nat.lt_irrefl _)
       refine rg trivial ?_
       exact congrArg C109 hR
  exact Fn.go 77 Try.func109 zax zax (by simp [C109,FrsN,nrOf,Frs,FrsL,FrsB,rowOf,cInt,cBool,cStr,cSl,zdj,zca,zcu,zce,cDyad,ziq]) (A109 m x0 x1 x2 x3) zax (aux _ rfl)
 exact all 100 x0 x1 x2 x3 hn hi hj hp hm0 om
def k109 (x0:Family) (x1:Int) (x2:Int) (x3:Int):Cl:=(hres (C109 (zil x0 x1 x2 x3)),k5 (zmx x0 x1 x2 x3))
inductive Ln (f : Family) (p : Int) : Int → List Int → Prop
  | one:Ln f p p [p]
  | cons {q x:Int} {l:List Int} (h:q∈zbj f x) (t:Ln f p x l):Ln f p q (q :: l)
theorem Ln.snoc {f:Family} {q x p:Int} {l:List Int} (h:Ln f x q l) (hx:x∈zbj f p):Ln f p q (l++[p]):=by
 induction h with
 | one=>exact .cons hx .one
 | cons h _ ih=>exact .cons h ih
theorem Ln.last {f:Family} {q p:Int} {l:List Int} (h:Ln f p q l):(q=p∧l=[p])∨∃ x l',l=l'++[p]∧x∈zbj f p∧Ln f x q l':=by
 induction h with
 | one=>exact .inl ⟨rfl,rfl⟩
 | @cons q c l h t ih =>
  rcases ih with ⟨e1,e2⟩ | ⟨y,l',e1,hy,h'⟩
  ·subst e1;subst e2;exact .inr ⟨q,[q],rfl,h,.one⟩
  ·exact .inr ⟨y,q :: l',by rw [e1];rfl,hy,.cons h h'⟩
theorem Ln.above {f:Family} {q p:Int} {l:List Int} (h:Ln f p q l):Above f p q:=by
 induction h with
 | one=>exact Above.self _ _
 | cons h _ ih=>obtain ⟨n,hn⟩:=ih;exact ⟨n+1,.step hn h⟩
theorem Ln.head {f:Family} {q p:Int} {l:List Int} (h:Ln f p q l):∃ t,l=q :: t:=by
 cases h with
 | one=>exact ⟨[],rfl⟩
 | cons _ _=>exact ⟨_,rfl⟩
theorem Ln.end0 {f:Family} {q p:Int} {l:List Int} (h:Ln f p q l):l.getLast?=some p:=by
 rcases h.last with ⟨_,e⟩ | ⟨x,l',e,_,_⟩
 ·rw [e];rfl
 ·rw [e];simp
theorem parL_mem {f:Family} {x r:Int}:r∈zbj f x↔0≤r∧(r=(f.people.getD x.toNat default).father∨r=(f.people.getD x.toNat default).mother):=by
 unfold zbj
 generalize (f.people.getD x.toNat default).father=a
 generalize (f.people.getD x.toNat default).mother=b
 cases h1:decide (0≤a)<;>cases h2:decide (0≤b)<;>simp only [cond_true,cond_false]<;>simp only [decide_eq_true_eq,decide_eq_false_iff_not] at h1 h2<;>simp<;>omega
theorem zq8 {f:Family} (hf:zbh f=true) {x:Int} (hx:0≤x∧x<f.people.length):(zbj f x).Nodup:=by
 have hp:=fam_p hf (k:=x.toNat) om
 have h1:=hp.fa;have h2:=hp.mo
 have hne:0≤(f.people.getD x.toNat default).father→0≤(f.people.getD x.toNat default).mother→(f.people.getD x.toNat default).father≠(f.people.getD x.toNat default).mother:=fun c1 c2 e=>by
  rcases h1 with h1 | ⟨_,_,s1,_⟩
  ·omega
  ·rcases h2 with h2 | ⟨_,_,s2,_⟩
   ·omega
   ·rw [e,s2] at s1;omega
 unfold zbj
 revert hne
 generalize (f.people.getD x.toNat default).father=a
 generalize (f.people.getD x.toNat default).mother=b
 intro hne
 cases c1:decide (0≤a)<;>cases c2:decide (0≤b)<;>simp only [cond_true,cond_false]<;>simp
 have c1:=of_decide_eq_true c1;have c2:=of_decide_eq_true c2
 exact hne c1 c2
theorem Ln.rng {f:Family} (hf:zbh f=true) {q p:Int} {l:List Int} (h:Ln f p q l) (hp:0≤p∧p<f.people.length):0≤q∧q<f.people.length∧q≤p:=h.above.rng hf hp
theorem zg2 {L:List (List Int)} (p:Int) (h:L.Nodup):(L.map fun l=>l++[p]).Nodup:=by
 induction L with
 | nil=>exact List.nodup_nil
 | cons x L ih =>
  have h:=List.nodup_cons.1 h
  refine List.nodup_cons.2 ⟨fun hm=>?_,ih h.2⟩
  obtain ⟨y,hy,e⟩:=List.mem_map.1 hm
  have:y=x:=List.append_cancel_right e
  rw [this] at hy;exact h.1 hy
def LOk (f:Family) (q p:Int) (r:List (List Int)×Bool):Prop :=
 (r.2=true→(∀ l,l∈r.1↔Ln f p q l)∧r.1.Nodup∧Srt zbu 0 r.1.length r.1)∧(r.2=false→∃ W:List (List Int),W.Nodup∧100<W.length∧∀ l∈W,Ln f p q l)
theorem zq0 {v:List (List Int)} (h:v.length≤1):Srt zbu 0 v.length v:=fun i j h1 h2 h3=>by omega
theorem zum {f : Family} (hf : zbh f = true) (q : Int) : ∀ (m : Nat) (p : Int), p.toNat < m → 0 ≤ p ∧ p < f.people.length → LOk f q p (zb9 m f q p)
  | 0,_,h,_=>absurd h (Nat.not_lt_zero _)
  | m+1,p,hm,hj=>by
    have hpar:=zcb f hf
    rw [zb9]
    refine zbz (p:=LOk f q p) (fun c=>?_) (fun c=>?_)
    · have c:=of_decide_eq_true c
      subst c
      refine ⟨fun _=>⟨fun l=>?_,by simp,zq0 zaz⟩,fun h=>zbg⟩
      rw [List.mem_singleton]
      constructor
      · rintro rfl;exact .one
      · intro h
        rcases h.last with ⟨_,e⟩ | ⟨x,l',e,hx,h'⟩
        · exact e
        · have h1:=(parL_mem.1 hx)
          have h2:=hpar q.toNat om
          have h3:=h'.rng hf (p:=x) om
          omega
    · have c:=of_decide_eq_false c
      rw [zey]
      have hnd:=zq8 hf hj
      have hin:∀ i:Nat,i<(zbj f p).length→0≤(zbj f p).getD i default∧(zbj f p).getD i default<p:=fun i hi=>by
        have h1:=parL_mem.1 (zde (d:=default) hi)
        have h2:=hpar p.toNat om
        omega
      refine zcc (fun i (v:List (List Int))=>v.Nodup∧v.length≤100∧∀ l,l∈v↔∃ x∈(zbj f p).take i,∃ l',l=l'++[p]∧Ln f x q l') (LOk f q p) ⟨List.nodup_nil,Nat.zero_le _,fun l=>⟨fun h=>absurd h zaz,fun ⟨x,hx,_⟩=>absurd hx zaz⟩⟩ (fun i v nx hi hv hn=>?_) (fun v hv=>?_)
      · obtain ⟨v1,v2,v3⟩:=hv
        have hb:=hin i hi
        have hxm:=zde (d:=default) hi
        have hget:(zbj f p)[i]?=some ((zbj f p).getD i default):=by rw [List.getElem?_eq_getElem hi,List.getD_eq_getElem?_getD,List.getElem?_eq_getElem hi];rfl
        have htake:(zbj f p).take (i+1)=(zbj f p).take i++[(zbj f p).getD i default]:=by rw [List.take_add_one,hget];rfl
        have hnot:(zbj f p).getD i default ∉ (zbj f p).take i:=fun hmem=>by
          have:((zbj f p).take (i+1)).Nodup:=List.Nodup.sublist (List.take_sublist _ _) hnd
          rw [htake,List.nodup_append] at this
          exact this.2.2 _ hmem _ zaz rfl
        have ih:=zum hf q m ((zbj f p).getD i default) om om
        generalize (zbj f p).getD i default=x at hb hxm htake hnot ih
        obtain ⟨ih1,ih2⟩:=ih
        cases hr:(zb9 m f q x).2 with
        | false =>
          obtain ⟨W,w1,w2,w3⟩:=ih2 hr
          refine ⟨fun h=>zbg,fun _=>⟨W.map fun l=>l++[p],zg2 p w1,by rw [List.length_map];exact w2,fun l hl=>?_⟩⟩
          obtain ⟨l',hl',rfl⟩:=List.mem_map.1 hl
          exact (w3 l' hl').snoc hxm
        | true =>
          obtain ⟨i1,i2,_⟩:=ih1 hr
          simp only [Bool.not_true,cond_false]
          generalize (zb9 m f q x).1=L at i1 i2
          refine zcc (fun j (w:List (List Int))=>w=v++(L.take j).map fun l=>l++[p]) (LOk f q p) zaz (fun j w next hj hw hn2=>hn2 _ ?_) (fun w hw=>?_)
          · have e:L.take (j+1)=L.take j++[L.getD j []]:=by
              rw [List.take_add_one,List.getElem?_eq_getElem hj,List.getD_eq_getElem?_getD,List.getElem?_eq_getElem hj];rfl
            rw [hw,e,List.map_append,List.append_assoc];rfl
          · rw [List.take_length] at hw
            have hwn:w.Nodup:=by
              rw [hw,List.nodup_append]
              refine ⟨v1,zg2 p i2,fun a ha b hb' hab=>?_⟩
              obtain ⟨l',hl',e⟩:=List.mem_map.1 hb'
              obtain ⟨y,hy,l2,e2,h2⟩:=(v3 a).1 ha
              have e3:l2=l':=List.append_cancel_right (by rw [← e2,hab,← e])
              have k1:=h2.end0
              have k2:=((i1 l').1 hl').end0
              rw [e3,k2] at k1
              have:x=y:=Option.some.inj k1
              exact hnot (by rw [this];exact hy)
            have hwm:∀ l,l∈w↔∃ y∈(zbj f p).take (i+1),∃ l',l=l'++[p]∧Ln f y q l':=fun l=>by
              rw [hw,List.mem_append,v3,htake]
              constructor
              · rintro (⟨y,hy,h⟩ | h)
                · exact ⟨y,List.mem_append_left _ hy,h⟩
                · obtain ⟨l',hl',e⟩:=List.mem_map.1 h
                  exact ⟨x,List.mem_append_right _ zaz,l',e.symm,(i1 l').1 hl'⟩
              · rintro ⟨y,hy,l',e,h⟩
                rcases List.mem_append.1 hy with hy | hy
                · exact .inl ⟨y,hy,l',e,h⟩
                · rw [List.mem_singleton] at hy
                  subst hy
                  exact .inr (List.mem_map.2 ⟨l',(i1 l').2 h,e.symm⟩)
            refine zbz (p:=LOk f q p) (fun c2=>?_) (fun c2=>hn _ ⟨hwn,by have:=of_decide_eq_false c2;omega,hwm⟩)
            refine ⟨fun h=>zbg,fun _=>⟨w,hwn,by have:=of_decide_eq_true c2;omega,fun l hl=>?_⟩⟩
            obtain ⟨y,hy,l',rfl,h⟩:=(hwm l).1 hl
            exact h.snoc (List.mem_of_mem_take hy)
      · obtain ⟨v1,v2,v3⟩:=hv
        rw [List.take_length] at v3
        have hm:∀ l,l∈v↔Ln f p q l:=fun l=>by
          rw [v3]
          constructor
          · rintro ⟨x,hx,l',rfl,h⟩;exact h.snoc hx
          · intro h
            rcases h.last with ⟨e,_⟩ | ⟨x,l',e,hx,h'⟩
            · exact absurd e c
            · exact ⟨x,hx,l',e,h'⟩
        refine zbz (p:=LOk f q p) (fun c2=>?_) (fun c2=>?_)
        · have hs:=zms (SrtL.mk v) (zdd (v.length:Int)) (show v.length≤255 by omega)
          have hpm:=zmn v om
          have hs1:Srt zbu 0 (zk8 (SrtL.mk v) ()).length (zk8 (SrtL.mk v) ()):=by rw [hpm.length_eq];exact hs.1
          exact ⟨fun _=>⟨fun l=>(hpm.mem_iff).trans (hm l),hpm.nodup_iff.2 v1,hs1⟩,fun h=>zbg⟩
        · have c2:=of_decide_eq_false c2
          exact ⟨fun _=>⟨hm,v1,zq0 (v:=v) om⟩,fun h=>zbg⟩
end Go.Proofs.Ytaageiiodlfeiaa
