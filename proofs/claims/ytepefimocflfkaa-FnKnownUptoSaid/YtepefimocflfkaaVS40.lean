import Derived.Test.YtepefimocflfkaaV47
set_option maxHeartbeats 4000000
set_option linter.unusedSimpArgs false
set_option linter.unusedVariables false
namespace Go.Proofs.Ytepefimocflfkaa
open Go Go.Lite Go.Proofs
section
variable {α:Type} [Inhabited α]
theorem gi_set (l:List α) (i k:Int) (x:α) (hi:0≤i∧i<l.length) (hk:0≤k):gi (l.set i.toNat x) k=if k=i then x else gi l k:=by
 unfold gi
 by_cases e:k=i
 ·subst e
  rw [if_pos rfl,List.getD_eq_getElem?_getD,List.getElem?_set_self (by omega)]
  rfl
 ·rw [if_neg e,List.getD_eq_getElem?_getD,List.getD_eq_getElem?_getD,List.getElem?_set_ne (by omega)]
theorem gi_swp (l:List α) (i j k:Int) (hi:0≤i∧i<l.length) (hj:0≤j∧j<l.length) (hk:0≤k):gi (swp l i j) k=if k=j then gi l i else if k=i then gi l j else gi l k:=by
 unfold swp
 rw [gi_set _ _ _ _ (by simpa using hj) hk,gi_set _ _ _ _ hi hk]
inductive Sw (a b : Int) (l : List α) : List α → Prop
  | refl:Sw a b l l
  | step {l':List α} (h:Sw a b l l') (i j:Int) (hi:a≤i∧i<b) (hj:a≤j∧j<b):Sw a b l (swp l' i j)
theorem Sw.len {a b:Int} {l l':List α} (h:Sw a b l l'):l'.length=l.length:=by
 induction h with
 | refl=>rfl
 | step h i j hi hj ih=>rw [swp_len,ih]
theorem Sw.trans {a b:Int} {l m n:List α} (h:Sw a b l m) (h2:Sw a b m n):Sw a b l n:=by
 induction h2 with
 | refl=>exact h
 | step _ i j hi hj ih=>exact .step ih i j hi hj
theorem Sw.mono {a b c d:Int} {l m:List α} (h:Sw a b l m) (h1:c≤a) (h2:b≤d):Sw c d l m:=by
 induction h with
 | refl=>exact .refl
 | step _ i j hi hj ih=>exact .step ih i j (by omega) (by omega)
theorem Sw.one {a b:Int} {l:List α} (i j:Int) (hi:a≤i∧i<b) (hj:a≤j∧j<b):Sw a b l (swp l i j):=.step .refl i j hi hj
theorem Sw.out {a b:Int} {l l':List α} (h:Sw a b l l') (ha:0≤a) (hb:b≤l.length) {k:Int} (hk:0≤k) (hk2:k<a∨b≤k):gi l' k=gi l k:=by
 induction h with
 | refl=>rfl
 | step h i j hi hj ih =>
  have hl:=h.len
  rw [gi_swp _ _ _ _ (by omega) (by omega) hk,if_neg (by omega),if_neg (by omega),ih]
theorem Sw.all {a b:Int} {l l':List α} (h:Sw a b l l') (ha:0≤a) (hb:b≤l.length) {P:α→Prop} (hP:∀ k,a≤k→k<b→P (gi l k)):∀ k,a≤k→k<b→P (gi l' k):=by
 induction h with
 | refl=>exact hP
 | step h i j hi hj ih =>
  intro k h1 h2
  have hl:=h.len
  rw [gi_swp _ _ _ _ (by omega) (by omega) (by omega)]
  split
  ·exact ih _ hi.1 hi.2
  ·split
   ·exact ih _ hj.1 hj.2
   ·exact ih _ h1 h2
theorem gi_get (l:List α) (i:Int) (h0:0≤i) (h:i<l.length):gi l i=l[i.toNat]'(by omega):=by
 unfold gi
 rw [List.getD_eq_getElem?_getD,List.getElem?_eq_getElem (by omega)]
 rfl
theorem swp_perm [DecidableEq α] (l:List α) (i j:Int) (hi:0≤i∧i<l.length) (hj:0≤j∧j<l.length):(swp l i j).Perm l:=by
 rw [List.perm_iff_count]
 intro a
 unfold swp
 rw [List.count_set (by simp;omega),List.count_set (by omega),gi_get l i hi.1 hi.2,gi_get l j hj.1 hj.2,List.getElem_set]
 have h1:l[i.toNat]'(by omega)=a→0<l.count a:=fun e=>List.count_pos_iff.2 (e ▸ List.getElem_mem _)
 have h2:l[j.toNat]'(by omega)=a→0<l.count a:=fun e=>List.count_pos_iff.2 (e ▸ List.getElem_mem _)
 by_cases e:i.toNat=j.toNat
 ·simp only [e,if_true,beq_iff_eq]
  split
  ·rename_i h;have:=h2 h;omega
  ·omega
 ·simp only [e,if_false,beq_iff_eq]
  split<;>split
  ·rename_i h h';have:=h2 h';omega
  ·rename_i h h';have:=h1 h;omega
  ·rename_i h h';have:=h2 h';omega
  ·omega
theorem Sw.perm [DecidableEq α] {a b:Int} {l l':List α} (h:Sw a b l l') (ha:0≤a) (hb:b≤l.length):l'.Perm l:=by
 induction h with
 | refl=>exact List.Perm.refl _
 | step h i j hi hj ih =>
  have hl:=h.len
  exact (swp_perm _ i j (by omega) (by omega)).trans ih
def Srt (R:α→α→Bool) (a b:Int) (l:List α):Prop:=∀ i j,a≤i→i<j→j<b→R (gi l j) (gi l i)=false
end
section
variable {α:Type}
structure SWO (R:α→α→Bool):Prop where
 irr:∀ x,R x x=false
 asym:∀ x y,R x y=true→R y x=false
 ntr:∀ x y z,R x y=false→R y z=false→R x z=false
theorem SWO.lt_le {R:α→α→Bool} (h:SWO R) {x y z:α} (h1:R x y=true) (h2:R z y=false):R x z=true:=by
 cases e:R x z with
 | true=>rfl
 | false=>rw [h.ntr x z y e h2] at h1;cases h1
theorem SWO.le_lt {R:α→α→Bool} (h:SWO R) {x y z:α} (h1:R y x=false) (h2:R y z=true):R x z=true:=by
 cases e:R x z with
 | true=>rfl
 | false=>rw [h.ntr y x z h1 e] at h2;cases h2
end
section
variable {α:Type} [Inhabited α]
theorem Srt.pairwise {R:α→α→Bool} {l:List α} (h:Srt R 0 l.length l):l.Pairwise fun x y=>R y x=false:=by
 rw [List.pairwise_iff_getElem]
 intro i j hi hj hij
 have:=h i j (by omega) (by omega) (by omega)
 rw [gi_get l i (by omega) (by omega),gi_get l j (by omega) (by omega)] at this
 simpa using this
end

theorem Sw.both {α:Type} [Inhabited α] {a b:Int} {l l':List α} (h:Sw a b l l'):Sw a b l l'∧l'.length=l.length:=⟨h,h.len⟩
structure PI {α:Type} [Inhabited α] (R:α→α→Bool) (x1 x2:Int) (l0:List α) (p:α) (i j:Int) (l:List α):Prop where
 b:x1+1≤i∧i≤j+2∧x1≤j∧j<x2∧i≤x2
 s:Sw x1 x2 l0 l
 pv:gi l x1=p
 lo:∀ k,x1<k→k<i→R (gi l k) p=true
 hi:∀ k,j<k→k<x2→R (gi l k) p=false
structure PartOk {α:Type} [Inhabited α] (R:α→α→Bool) (x1 x2:Int) (l0:List α) (p:α) (mid:Int) (l:List α):Prop where
 b:x1≤mid∧mid<x2
 s:Sw x1 x2 l0 l
 pv:gi l mid=p
 lo:∀ k,x1≤k→k<mid→R (gi l k) p=true
 hi:∀ k,mid<k→k<x2→R (gi l k) p=false
section
variable {α:Type} [Inhabited α] {R:α→α→Bool} {x1 x2 i j:Int} {l0 l:List α} {p:α}
theorem PI.up (h:PI R x1 x2 l0 p i j l) (hij:i≤j) (hr:R (gi l i) (gi l x1)=true):PI R x1 x2 l0 p (i+1) j l :=
 ⟨by have:=h.b;omega,h.s,h.pv,fun k h1 h2=>by
  by_cases e:k=i
  ·subst e;rw [h.pv] at hr;exact hr
  ·exact h.lo k h1 (by omega),h.hi⟩
theorem PI.swap (h:PI R x1 x2 l0 p i j l) (h0:0≤x1∧x2≤l0.length) (hij:i≤j) (hi:R (gi l i) (gi l x1)=false) (hj:R (gi l j) (gi l x1)=true):PI R x1 x2 l0 p (i+1) (j - 1) (swp l i j):=by
 have hb:=h.b
 have hl:=h.s.len
 have hne:i≠j:=fun e=>by subst e;rw [hi] at hj;cases hj
 have hg:=fun (k:Int) (hk:0≤k)=>gi_swp l i j k (by omega) (by omega) hk
 rw [h.pv] at hi hj
 refine ⟨by omega,.step h.s _ _ (by omega) (by omega),?_,fun k h1 h2=>?_,fun k h1 h2=>?_⟩
 ·rw [hg _ (by omega),if_neg (by omega),if_neg (by omega),h.pv]
 ·rw [hg _ (by omega),if_neg (by omega)]
  split
  ·exact hj
  ·exact h.lo k h1 (by omega)
 ·rw [hg _ (by omega)]
  split
  ·exact hi
  ·rw [if_neg (by omega)]
   exact h.hi k (by omega) h2
theorem PI.done (h:PI R x1 x2 l0 p i j l) (h0:0≤x1∧x2≤l0.length) (hij:j<i):PartOk R x1 x2 l0 p j (swp l j x1):=by
 have hb:=h.b
 have hl:=h.s.len
 have hg:=fun (k:Int) (hk:0≤k)=>gi_swp l j x1 k (by omega) (by omega) hk
 refine ⟨by omega,.step h.s _ _ (by omega) (by omega),?_,fun k h1 h2=>?_,fun k h1 h2=>?_⟩
 ·rw [hg _ (by omega)]
  split
  ·rename_i e;rw [e];exact h.pv
  ·rw [if_pos rfl];exact h.pv
 ·rw [hg _ (by omega)]
  split
  ·exact h.lo j (by omega) hij
  ·rw [if_neg (by omega)]
   exact h.lo k (by omega) (by omega)
 ·rw [hg _ (by omega),if_neg (by omega),if_neg (by omega)]
  exact h.hi k h1 h2
theorem PI.start (l:List α) {x3:Int} (h0:0≤x1∧x2≤l.length) (h3:x1≤x3∧x3<x2):PI R x1 x2 l (gi l x3) (x1+1) (x2 - 1) (swp l x1 x3) :=
 ⟨by omega,.step .refl _ _ (by omega) (by omega),by
  rw [gi_swp l x1 x3 x1 (by omega) (by omega) (by omega)]
  split
  ·rename_i e;rw [e]
  ·rw [if_pos rfl],fun k h1 h2=>absurd h1 (by omega),fun k h1 h2=>absurd h1 (by omega)⟩
end
theorem w1 {p:Prop} [Decidable p]:decide p=true↔p:=by simp
theorem w2 {p:Prop} [Decidable p]:decide p=false↔¬ p:=by simp
theorem w3 {a b:Bool}:(a&&b)=true↔a=true∧b=true:=by simp
section
variable {α:Type} [Inhabited α] {R:α→α→Bool}
structure InsI (R:α→α→Bool) (a i j:Int) (l:List α):Prop where
 b:a≤j∧j≤i
 pr:∀ p q,a≤p→p<q→q≤i→p≠j→q≠j→R (gi l q) (gi l p)=false
 up:∀ q,j<q→q≤i→R (gi l q) (gi l j)=false
theorem InsI.start {a i:Int} {l:List α} (h:a≤i) (hs:Srt R a i l):InsI R a i i l :=
 ⟨by omega,fun p q h1 h2 h3 _ h5=>hs p q h1 h2 (by omega),fun q h1 h2=>absurd h1 (by omega)⟩
theorem InsI.step (hR:SWO R) {a i j:Int} {l:List α} (h:InsI R a i j l) (ha:0≤a) (hl:i<l.length) (hj:a<j) (hr:R (gi l j) (gi l (j - 1))=true):InsI R a i (j - 1) (swp l j (j - 1)):=by
 have hb:=h.b
 have hg:=fun (k:Int) (hk:0≤k)=>gi_swp l j (j - 1) k (by omega) (by omega) hk
 refine ⟨by omega,fun p q h1 h2 h3 h4 h5=>?_,fun q h1 h2=>?_⟩
 ·rw [hg p (by omega),hg q (by omega),if_neg h4,if_neg h5]
  split
  ·rw [if_neg (by omega)]
   exact h.pr p (j - 1) h1 (by omega) (by omega) (by omega) (by omega)
  ·split
   ·exact h.pr (j - 1) q (by omega) (by omega) h3 (by omega) (by omega)
   ·exact h.pr p q h1 h2 h3 (by omega) (by omega)
 ·rw [hg q (by omega),hg (j - 1) (by omega),if_neg (by omega),if_pos rfl]
  split
  ·exact hR.asym _ _ hr
  ·exact h.up q (by omega) h2
theorem InsI.done (hR:SWO R) {a i j:Int} {l:List α} (h:InsI R a i j l) (hr:a<j→R (gi l j) (gi l (j - 1))=false):Srt R a (i+1) l:=by
 have hb:=h.b
 intro p q h1 h2 h3
 by_cases e1:p=j
 ·subst e1;exact h.up q h2 (by omega)
 ·by_cases e2:q=j
  ·subst e2
   by_cases e3:p=q - 1
   ·subst e3;exact hr (by omega)
   ·exact hR.ntr _ _ _ (hr (by omega)) (h.pr p (q - 1) h1 (by omega) (by omega) e1 (by omega))
  ·exact h.pr p q h1 h2 (by omega) e1 e2
def Heap (R:α→α→Bool) (f k n:Int) (l:List α):Prop:=∀ r c,k≤r→(c=2 * r+1∨c=2 * r+2)→c<n→R (gi l (f+r)) (gi l (f+c))=false
structure HeapI (R:α→α→Bool) (f k n r:Int) (l:List α):Prop where
 b:k≤r
 ot:∀ q c,k≤q→q≠r→(c=2 * q+1∨c=2 * q+2)→c<n→R (gi l (f+q)) (gi l (f+c))=false
 gr:∀ q c,k≤q→(r=2 * q+1∨r=2 * q+2)→(c=2 * r+1∨c=2 * r+2)→c<n→R (gi l (f+q)) (gi l (f+c))=false
theorem HeapI.start {f k n:Int} {l:List α} (hk:0≤k) (h:Heap R f (k+1) n l):HeapI R f k n k l :=
 ⟨by omega,fun q c h1 h2 h3 h4=>h q c (by omega) h3 h4,fun q c h1 h2=>absurd h1 (by omega)⟩
theorem HeapI.done {f k n r:Int} {l:List α} (h:HeapI R f k n r l) (hr:∀ c,(c=2 * r+1∨c=2 * r+2)→c<n→R (gi l (f+r)) (gi l (f+c))=false):Heap R f k n l:=by
 intro q c h1 h2 h3
 by_cases e:q=r
 ·subst e;exact hr c h2 h3
 ·exact h.ot q c h1 e h2 h3
theorem HeapI.step (hR : SWO R) {f k n r c : Int} {l : List α} (h : HeapI R f k n r l) (h0 : 0 ≤ f ∧ 0 ≤ k ∧ f + n ≤ l.length) (hc : c = 2 * r + 1 ∨ c = 2 * r + 2) (hcn : c < n) (hr : R (gi l (f + r)) (gi l (f + c)) = true)
    (ho:∀ d,(d=2 * r+1∨d=2 * r+2)→d<n→R (gi l (f+c)) (gi l (f+d))=false):HeapI R f k n c (swp l (f+r) (f+c)):=by
 have hb:=h.b
 have hg:=fun (k:Int) (hk:0≤k)=>gi_swp l (f+r) (f+c) k (by omega) (by omega) hk
 refine ⟨by omega,fun q d h1 h2 h3 h4=>?_,fun q d h1 h2 h3 h4=>?_⟩
 ·rw [hg (f+q) (by omega),hg (f+d) (by omega),if_neg (by omega)]
  by_cases e:q=r
  ·subst e
   rw [if_pos rfl]
   by_cases e2:d=c
   ·subst e2;rw [if_pos rfl];exact hR.asym _ _ hr
   ·rw [if_neg (by omega),if_neg (by omega)]
    exact ho d h3 h4
  ·rw [if_neg (by omega)]
   by_cases e2:d=r
   ·subst e2
    rw [if_neg (by omega),if_pos rfl]
    exact h.gr q c h1 h3 hc hcn
   ·rw [if_neg (by omega),if_neg (by omega)]
    exact h.ot q d h1 e h3 h4
 ·have e:q=r:=by omega
  subst e
  rw [hg (f+q) (by omega),hg (f+d) (by omega),if_neg (by omega),if_pos rfl,if_neg (by omega),if_neg (by omega)]
  exact h.ot c d (by omega) (by omega) h3 h4
structure Done (R:α→α→Bool) (x1 x2 a b:Int) (l:List α):Prop where
 d:∀ i j,x1≤i→i<j→j<x2→(i<a∨b≤j)→R (gi l j) (gi l i)=false
 p:0<x1→∀ k,x1≤k→k<x2→R (gi l k) (gi l (x1 - 1))=false
theorem Done.fin {x1 x2 a b:Int} {l:List α} (h:Done R x1 x2 a b l) (hs:Srt R a b l):Srt R x1 x2 l:=fun i j h1 h2 h3=>by
 by_cases e:i<a∨b≤j
 ·exact h.d i j h1 h2 h3 e
 ·exact hs i j (by omega) h2 (by omega)
end
theorem at_mod {b:List Int} (hb:∀ y∈b,0≤y∧y≤255) {i:Int} (hi:0≤i) (n:Int) (hn:0<n):0≤(at1 b i).tmod n∧(at1 b i).tmod n<n:=by
 rw [Int.tmod_eq_emod_of_nonneg (at1_rng hb hi).1]
 exact ⟨Int.emod_nonneg _ (by omega),Int.emod_lt_of_pos _ hn⟩
theorem year_idx {b:List Int} (hb:∀ y∈b,0≤y∧y≤255) {i:Int} (hi:0≤i) {x:Family} (hf:specIsFamily x=true) (hn:0<x.people.length):(0≤(at1 b i).tmod (x.people.length:Int)∧(at1 b i).tmod (x.people.length:Int)<(x.people.length:Int))∧(0≤(x.people.getD ((at1 b i).tmod (x.people.length:Int)).toNat default).born∧(x.people.getD ((at1 b i).tmod (x.people.length:Int)).toNat default).born≤9999)∧((x.people.getD ((at1 b i).tmod (x.people.length:Int)).toNat default).died≤9999):=by
 have h9:0≤(at1 b i).tmod (x.people.length:Int)∧(at1 b i).tmod (x.people.length:Int)<(x.people.length:Int):=at_mod hb hi _ (by omega)
 have h7:=fam_p hf (k:=((at1 b i).tmod (x.people.length:Int)).toNat) (by omega)
 have h6:=h7.born;have h5:=h7.died
 exact ⟨h9,h6,by omega⟩
theorem four_rng {i:Nat} (h:i<4):0≤([0,1,20,45]:List Int).getD i default∧([0,1,20,45]:List Int).getD i default≤45:=by
 match i,h with
 | 0,_=>decide
 | 1,_=>decide
 | 2,_=>decide
 | 3,_=>decide
def C13 (R:Int):LV×List (Nat×BC):=(.int .i64 R,[])
def lawYear (x0:List Int) (x1:Int) (x2:Family):Int:=bif ((decide (0≤((x2.people.getD (((at1 x0 x1).tmod ((x2.people.length:Nat):Int)).toNat) default).died)))&&(decide (((at1 x0 (x1+1)).tmod 2)=0))) then ((((x2.people.getD (((at1 x0 x1).tmod ((x2.people.length:Nat):Int)).toNat) default).died)+((at1 x0 (x1+2)).tmod 3)) - 1) else (((x2.people.getD (((at1 x0 x1).tmod ((x2.people.length:Nat):Int)).toNat) default).born)+([0,1,20,45].getD (((at1 x0 (x1+1)).tmod 4).toNat) default))
def A13 (x0:List Int) (x1:Int) (x2:Family):Ann:=.reg 2 [] [(1004,k16 x0 x1)] [0,1,6,7] [7] [] [pf ((((x2.people.length:Nat):Int):Int)≠0),pf (0≤((at1 x0 x1).tmod ((x2.people.length:Nat):Int):Int)∧((at1 x0 x1).tmod ((x2.people.length:Nat):Int):Int)<((x2.people.length:Nat):Int))] [] [8,0,4] (.reg 1 [] [(7,cg (decide (0≤((x2.people.getD (((at1 x0 x1).tmod ((x2.people.length:Nat):Int)).toNat) default).died))) (k16 x0 (x1+1)))] [0,1,6,7,29] [7] [decide (0≤((x2.people.getD (((at1 x0 x1).tmod ((x2.people.length:Nat):Int)).toNat) default).died))] [gt (decide (0≤((x2.people.getD (((at1 x0 x1).tmod ((x2.people.length:Nat):Int)).toNat) default).died))) (pf (inR .i64 (x1+1))),gt (decide (0≤((x2.people.getD (((at1 x0 x1).tmod ((x2.people.length:Nat):Int)).toNat) default).died))) (pf ((2:Int)≠0))] [] [1,0,1,1,8,1,4,1,1] (cn ((decide (0≤((x2.people.getD (((at1 x0 x1).tmod ((x2.people.length:Nat):Int)).toNat) default).died)))&&(decide (((at1 x0 (x1+1)).tmod 2)=0))) (.reg 1 [] [(5,k16 x0 (x1+2))] [0,1,6,7] [7] [] [pf (inR .i64 (x1+2)),pf ((3:Int)≠0),pf (inR .i64 (((x2.people.getD (((at1 x0 x1).tmod ((x2.people.length:Nat):Int)).toNat) default).died)+((at1 x0 (x1+2)).tmod 3))),pf (inR .i64 ((((x2.people.getD (((at1 x0 x1).tmod ((x2.people.length:Nat):Int)).toNat) default).died)+((at1 x0 (x1+2)).tmod 3)) - 1))] [] [0,16,4,8,12] (rt [] (C13 ((((x2.people.getD (((at1 x0 x1).tmod ((x2.people.length:Nat):Int)).toNat) default).died)+((at1 x0 (x1+2)).tmod 3)) - 1)))) (.reg 1 [] [(2,bsC 41 (cInt .i64) ([0,1,20,45]:List Int)),(6,k16 x0 (x1+1))] [6] [] [] [pf (inR .i64 (x1+1)),pf ((4:Int)≠0),pf (0≤((at1 x0 (x1+1)).tmod 4:Int)∧((at1 x0 (x1+1)).tmod 4:Int)<((4:Nat):Int)),pf (inR .i64 (((x2.people.getD (((at1 x0 x1).tmod ((x2.people.length:Nat):Int)).toNat) default).born)+([0,1,20,45].getD (((at1 x0 (x1+1)).tmod 4).toNat) default)))] [] [16,0,20,4,8,12] (rt [] (C13 (((x2.people.getD (((at1 x0 x1).tmod ((x2.people.length:Nat):Int)).toNat) default).born)+([0,1,20,45].getD (((at1 x0 (x1+1)).tmod 4).toNat) default)))))))
theorem ok_laws_year (x0:List Int) (x1:Int) (x2:Family) (hx:x0.length≤1048576) (hb:∀ y∈x0,0≤y∧y≤255) (hi:0≤x1∧x1≤900) (hf:specIsFamily x2=true) (hn:0<x2.people.length):FnT Try.prog 13 [.ro false 1 x0.length (rowOf (cInt .u8) x0),.int .i64 x1,.agg (cFamily false x2)] (C13 (lawYear x0 x1 x2)):=by
 have aux:∀ R,lawYear x0 x1 x2=R→slim (C13 R) (A13 x0 x1 x2) []:=by
  intro R hR
  refine rg ⟨by (intros;omega),by (have h9:=year_idx hb hi.1 hf hn;(try simp only [inR]);omega),⟨by with_reducible assumption,by with_reducible assumption,by (intros;omega)⟩,trivial⟩ ?_
  refine rg ⟨by (have h9:=year_idx hb hi.1 hf hn;(try simp only [inR]);omega),by (intros;omega),fun hg0=>⟨by with_reducible assumption,by with_reducible assumption,by (intros;omega)⟩,trivial⟩ ?_
  revert hR;refine cd (fun hc1 hR=>?_) fun hc1 hR=>?_
  ·
    refine rg ⟨by (have h9:=year_idx hb hi.1 hf hn;(try simp only [inR]);omega),by (intros;omega),by ((try clear hR);intros;(try simp only [decide_eq_true_eq,decide_eq_false_iff_not,Bool.or_eq_true,Bool.and_eq_true,or_f_iff,not_f_iff,not_t_iff,Bool.not_eq_true',inR] at *);(repeat' apply And.intro)<;>(have h9:=year_idx hb hi.1 hf hn;have h8:=at_mod hb (i:=x1+2) (by omega) 3 (by omega);intros;(try simp only [inR,decide_eq_true_eq] at *);omega)),by ((try clear hR);intros;(try simp only [decide_eq_true_eq,decide_eq_false_iff_not,Bool.or_eq_true,Bool.and_eq_true,or_f_iff,not_f_iff,not_t_iff,Bool.not_eq_true',inR] at *);(repeat' apply And.intro)<;>(have h9:=year_idx hb hi.1 hf hn;have h8:=at_mod hb (i:=x1+2) (by omega) 3 (by omega);intros;(try simp only [inR,decide_eq_true_eq] at *);omega)),⟨by with_reducible assumption,by with_reducible assumption,by (intros;omega)⟩,trivial⟩ ?_
    exact congrArg C13 hR
  ·
    refine rg ⟨by (have h9:=year_idx hb hi.1 hf hn;(try simp only [inR]);omega),by (intros;omega),by (have h9:=year_idx hb hi.1 hf hn;have h8:=at_mod hb (i:=x1+1) (by omega) 4 (by omega);(try simp only [inR,List.length_cons,List.length_nil]);omega),by (have h9:=year_idx hb hi.1 hf hn;have h8:=at_mod hb (i:=x1+1) (by omega) 4 (by omega);have h7:=four_rng (i:=((at1 x0 (x1+1)).tmod 4).toNat) (by omega);(try simp only [inR]);omega),trivial,⟨by with_reducible assumption,by with_reducible assumption,by (intros;omega)⟩,trivial⟩ ?_
    exact congrArg C13 hR
 exact Fn.go 50 Try.func13 (by kernel_rfl) (by kernel_rfl) (by simp [C13,Frs,FrsL]) (A13 x0 x1 x2) (by kernel_rfl) (aux _ rfl)
def k13 (x0:List Int) (x1:Int) (x2:Family):Cl:=(hres (C13 (lawYear x0 x1 x2)),k5 (ok_laws_year x0 x1 x2))
end Go.Proofs.Ytepefimocflfkaa
