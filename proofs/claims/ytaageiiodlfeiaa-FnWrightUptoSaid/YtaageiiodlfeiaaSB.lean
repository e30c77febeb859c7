import Derived.Test.YtaageiiodlfeiaaM49
set_option maxHeartbeats 4000000
set_option linter.unusedSimpArgs false
set_option linter.unusedVariables false
namespace Go.Proofs.Ytaageiiodlfeiaa
open Go Go.Lite Go.Proofs
section
variable {α:Type} [Inhabited α]
theorem z0p (l:List α) (i k:Int) (x:α) (hi:0≤i∧i<l.length) (hk:0≤k):gi (l.set i.toNat x) k=if k=i then x else gi l k:=by
 unfold gi
 by_cases e:k=i
 ·subst e
  rw [if_pos rfl,List.getD_eq_getElem?_getD,List.getElem?_set_self om]
  rfl
 ·rw [if_neg e,List.getD_eq_getElem?_getD,List.getD_eq_getElem?_getD,List.getElem?_set_ne om]
theorem zjh (l:List α) (i j k:Int) (hi:0≤i∧i<l.length) (hj:0≤j∧j<l.length) (hk:0≤k):gi (swp l i j) k=if k=j then gi l i else if k=i then gi l j else gi l k:=by
 unfold swp
 rw [z0p _ _ _ _ (by simpa using hj) hk,z0p _ _ _ _ hi hk]
inductive Sw (a b : Int) (l : List α) : List α → Prop
  | refl:Sw a b l l
  | step {l':List α} (h:Sw a b l l') (i j:Int) (hi:a≤i∧i<b) (hj:a≤j∧j<b):Sw a b l (swp l' i j)
theorem Sw.len {a b:Int} {l l':List α} (h:Sw a b l l'):l'.length=l.length:=by
 induction h with
 | refl=>rfl
 | step h i j hi hj ih=>rw [zbs,ih]
theorem Sw.trans {a b:Int} {l m n:List α} (h:Sw a b l m) (h2:Sw a b m n):Sw a b l n:=by
 induction h2 with
 | refl=>exact h
 | step _ i j hi hj ih=>exact .step ih i j hi hj
theorem Sw.mono {a b c d:Int} {l m:List α} (h:Sw a b l m) (h1:c≤a) (h2:b≤d):Sw c d l m:=by
 induction h with
 | refl=>exact .refl
 | step _ i j hi hj ih=>exact .step ih i j om om
theorem Sw.one {a b:Int} {l:List α} (i j:Int) (hi:a≤i∧i<b) (hj:a≤j∧j<b):Sw a b l (swp l i j):=.step .refl i j hi hj
theorem Sw.out {a b:Int} {l l':List α} (h:Sw a b l l') (ha:0≤a) (hb:b≤l.length) {k:Int} (hk:0≤k) (hk2:k<a∨b≤k):gi l' k=gi l k:=by
 induction h with
 | refl=>rfl
 | step h i j hi hj ih =>
  have hl:=h.len
  rw [zjh _ _ _ _ om om hk,if_neg om,if_neg om,ih]
theorem Sw.all {a b:Int} {l l':List α} (h:Sw a b l l') (ha:0≤a) (hb:b≤l.length) {P:α→Prop} (hP:∀ k,a≤k→k<b→P (gi l k)):∀ k,a≤k→k<b→P (gi l' k):=by
 induction h with
 | refl=>exact hP
 | step h i j hi hj ih =>
  intro k h1 h2
  have hl:=h.len
  rw [zjh _ _ _ _ om om om]
  split
  ·exact ih _ hi.1 hi.2
  ·split
   ·exact ih _ hj.1 hj.2
   ·exact ih _ h1 h2
theorem zuv (l:List α) (i:Int) (h0:0≤i) (h:i<l.length):gi l i=l[i.toNat]' om:=by
 unfold gi
 rw [List.getD_eq_getElem?_getD,List.getElem?_eq_getElem om]
 rfl
theorem zy3 [DecidableEq α] (l:List α) (i j:Int) (hi:0≤i∧i<l.length) (hj:0≤j∧j<l.length):(swp l i j).Perm l:=by
 rw [List.perm_iff_count]
 intro a
 unfold swp
 rw [List.count_set (by simp;omega),List.count_set om,zuv l i hi.1 hi.2,zuv l j hj.1 hj.2,List.getElem_set]
 have h1:l[i.toNat]' om=a→0<l.count a:=fun e=>List.count_pos_iff.2 (e ▸ List.getElem_mem _)
 have h2:l[j.toNat]' om=a→0<l.count a:=fun e=>List.count_pos_iff.2 (e ▸ List.getElem_mem _)
 by_cases e:i.toNat=j.toNat
 ·simp only [e,if_true,beq_iff_eq]
  split
  ·rename_i h;have:=h2 h;omega
  ·omega
 ·simp only [e,if_false,beq_iff_eq]
  split<;>split
  ·rename_i h h';have:=h2 h';omega
  ·rename_i h h';have:=h1 h;omega
  ·rename_i h h';have:=h2 h';omega
  ·omega
theorem Sw.perm [DecidableEq α] {a b:Int} {l l':List α} (h:Sw a b l l') (ha:0≤a) (hb:b≤l.length):l'.Perm l:=by
 induction h with
 | refl=>exact List.Perm.refl _
 | step h i j hi hj ih =>
  have hl:=h.len
  exact (zy3 _ i j om om).trans ih
def Srt (R:α→α→Bool) (a b:Int) (l:List α):Prop:=∀ i j,a≤i→i<j→j<b→R (gi l j) (gi l i)=false
end
section
variable {α:Type}
structure SWO (R:α→α→Bool):Prop where
 irr:∀ x,R x x=false
 asym:∀ x y,R x y=true→R y x=false
 ntr:∀ x y z,R x y=false→R y z=false→R x z=false
end
section
variable {α:Type} [Inhabited α]
end

theorem Sw.both {α:Type} [Inhabited α] {a b:Int} {l l':List α} (h:Sw a b l l'):Sw a b l l'∧l'.length=l.length:=⟨h,h.len⟩
theorem tdiv2 (n:Int) (h:-1≤n):0≤n.tdiv 2∧2 * n.tdiv 2≤n+1:=by
 by_cases e:0≤n
 ·rw [Int.tdiv_eq_ediv_of_nonneg e];omega
 ·have:n=-1:=by omega
  subst this;decide
theorem tdiv4 (n:Int) (h:0≤n):0≤n.tdiv 4∧4 * n.tdiv 4≤n∧n≤4 * n.tdiv 4+3:=by
 rw [Int.tdiv_eq_ediv_of_nonneg h];omega
theorem tdiv8 (n:Int) (h:0≤n):0≤n.tdiv 8∧8 * n.tdiv 8≤n:=by
 rw [Int.tdiv_eq_ediv_of_nonneg h];omega
theorem zdz (x m:Int) (hm:0≤m∧m<9223372036854775808):0≤bits .and .u64 x m∧bits .and .u64 x m≤m:=by
 have h1:(BitVec.ofInt 64 x &&& BitVec.ofInt 64 m).toNat≤m.toNat:=by
  rw [BitVec.toNat_and]
  refine Nat.le_trans Nat.and_le_right ?_
  simp only [BitVec.toNat_ofInt]
  omega
 have e:bits .and .u64 x m=((BitVec.ofInt 64 x &&& BitVec.ofInt 64 m).toNat:Int):=by
  show IntKind.wrap .u64 _=_
  exact zdl (n:=((BitVec.ofInt 64 x &&& BitVec.ofInt 64 m).toNat:Int)) (by simp only [inR];omega)
 rw [e]
 omega
theorem Sw.via {α:Type} [Inhabited α] {a b c d:Int} {l m n:List α} (h:Sw c d m n) (h2:Sw a b l m) (h3:a≤c) (h4:d≤b):Sw a b l n:=h2.trans (h.mono h3 h4)
structure PI {α:Type} [Inhabited α] (R:α→α→Bool) (x1 x2:Int) (l0:List α) (p:α) (i j:Int) (l:List α):Prop where
 b:x1+1≤i∧i≤j+2∧x1≤j∧j<x2∧i≤x2
 s:Sw x1 x2 l0 l
 pv:gi l x1=p
 lo:∀ k,x1<k→k<i→R (gi l k) p=true
 hi:∀ k,j<k→k<x2→R (gi l k) p=false
structure PartOk {α:Type} [Inhabited α] (R:α→α→Bool) (x1 x2:Int) (l0:List α) (p:α) (mid:Int) (l:List α):Prop where
 b:x1≤mid∧mid<x2
 s:Sw x1 x2 l0 l
 pv:gi l mid=p
 lo:∀ k,x1≤k→k<mid→R (gi l k) p=true
 hi:∀ k,mid<k→k<x2→R (gi l k) p=false
section
variable {α:Type} [Inhabited α] {R:α→α→Bool} {x1 x2 i j:Int} {l0 l:List α} {p:α}
theorem PI.up (h:PI R x1 x2 l0 p i j l) (hij:i≤j) (hr:R (gi l i) (gi l x1)=true):PI R x1 x2 l0 p (i+1) j l :=
 ⟨by have:=h.b;omega,h.s,h.pv,fun k h1 h2=>by
  by_cases e:k=i
  ·subst e;rw [h.pv] at hr;exact hr
  ·exact h.lo k h1 om,h.hi⟩
theorem PI.down (h:PI R x1 x2 l0 p i j l) (hij:i≤j) (hr:R (gi l j) (gi l x1)=false):PI R x1 x2 l0 p i (j - 1) l :=
 ⟨by have:=h.b;omega,h.s,h.pv,h.lo,fun k h1 h2=>by
  by_cases e:k=j
  ·subst e;rw [h.pv] at hr;exact hr
  ·exact h.hi k om h2⟩
theorem PI.swap (h:PI R x1 x2 l0 p i j l) (h0:0≤x1∧x2≤l0.length) (hij:i≤j) (hi:R (gi l i) (gi l x1)=false) (hj:R (gi l j) (gi l x1)=true):PI R x1 x2 l0 p (i+1) (j - 1) (swp l i j):=by
 have hb:=h.b
 have hl:=h.s.len
 have hne:i≠j:=fun e=>by subst e;rw [hi] at hj;cases hj
 have hg:=fun (k:Int) (hk:0≤k)=>zjh l i j k om om hk
 rw [h.pv] at hi hj
 refine ⟨om,.step h.s _ _ om om,?_,fun k h1 h2=>?_,fun k h1 h2=>?_⟩
 ·rw [hg _ om,if_neg om,if_neg om,h.pv]
 ·rw [hg _ om,if_neg om]
  split
  ·exact hj
  ·exact h.lo k h1 om
 ·rw [hg _ om]
  split
  ·exact hi
  ·rw [if_neg om]
   exact h.hi k om h2
theorem PI.done (h:PI R x1 x2 l0 p i j l) (h0:0≤x1∧x2≤l0.length) (hij:j<i):PartOk R x1 x2 l0 p j (swp l j x1):=by
 have hb:=h.b
 have hl:=h.s.len
 have hg:=fun (k:Int) (hk:0≤k)=>zjh l j x1 k om om hk
 refine ⟨om,.step h.s _ _ om om,?_,fun k h1 h2=>?_,fun k h1 h2=>?_⟩
 ·rw [hg _ om]
  split
  ·rename_i e;rw [e];exact h.pv
  ·rw [if_pos rfl];exact h.pv
 ·rw [hg _ om]
  split
  ·exact h.lo j om hij
  ·rw [if_neg om]
   exact h.lo k om om
 ·rw [hg _ om,if_neg om,if_neg om]
  exact h.hi k h1 h2
theorem PI.start (l:List α) {x3:Int} (h0:0≤x1∧x2≤l.length) (h3:x1≤x3∧x3<x2):PI R x1 x2 l (gi l x3) (x1+1) (x2 - 1) (swp l x1 x3) :=
 ⟨om,.step .refl _ _ om om,by
  rw [zjh l x1 x3 x1 om om om]
  split
  ·rename_i e;rw [e]
  ·rw [if_pos rfl],fun k h1 h2=>absurd h1 om,fun k h1 h2=>absurd h1 om⟩
end
theorem w1 {p:Prop} [Decidable p]:decide p=true↔p:=by simp
theorem w2 {p:Prop} [Decidable p]:decide p=false↔¬ p:=by simp
theorem w3 {a b:Bool}:(a&&b)=true↔a=true∧b=true:=by simp
theorem w4 {a b:Bool}:(a&&b)=false↔a=false∨b=false:=Bool.and_eq_false_iff
theorem w5 {a:Bool}:(!a)=true↔a=false:=by simp
theorem w6 {a:Bool}:(!a)=false↔a=true:=by simp
section
variable {α:Type} [Inhabited α] {R:α→α→Bool}
structure InsI (R:α→α→Bool) (a i j:Int) (l:List α):Prop where
 b:a≤j∧j≤i
 pr:∀ p q,a≤p→p<q→q≤i→p≠j→q≠j→R (gi l q) (gi l p)=false
 up:∀ q,j<q→q≤i→R (gi l q) (gi l j)=false
theorem InsI.start {a i:Int} {l:List α} (h:a≤i) (hs:Srt R a i l):InsI R a i i l :=
 ⟨om,fun p q h1 h2 h3 _ h5=>hs p q h1 h2 om,fun q h1 h2=>absurd h1 om⟩
theorem InsI.step (hR:SWO R) {a i j:Int} {l:List α} (h:InsI R a i j l) (ha:0≤a) (hl:i<l.length) (hj:a<j) (hr:R (gi l j) (gi l (j - 1))=true):InsI R a i (j - 1) (swp l j (j - 1)):=by
 have hb:=h.b
 have hg:=fun (k:Int) (hk:0≤k)=>zjh l j (j - 1) k om om hk
 refine ⟨om,fun p q h1 h2 h3 h4 h5=>?_,fun q h1 h2=>?_⟩
 ·rw [hg p om,hg q om,if_neg h4,if_neg h5]
  split
  ·rw [if_neg om]
   exact h.pr p (j - 1) h1 om om om om
  ·split
   ·exact h.pr (j - 1) q om om h3 om om
   ·exact h.pr p q h1 h2 h3 om om
 ·rw [hg q om,hg (j - 1) om,if_neg om,if_pos rfl]
  split
  ·exact hR.asym _ _ hr
  ·exact h.up q om h2
theorem InsI.done (hR:SWO R) {a i j:Int} {l:List α} (h:InsI R a i j l) (hr:a<j→R (gi l j) (gi l (j - 1))=false):Srt R a (i+1) l:=by
 have hb:=h.b
 intro p q h1 h2 h3
 by_cases e1:p=j
 ·subst e1;exact h.up q h2 om
 ·by_cases e2:q=j
  ·subst e2
   by_cases e3:p=q - 1
   ·subst e3;exact hr om
   ·exact hR.ntr _ _ _ (hr om) (h.pr p (q - 1) h1 om om e1 om)
  ·exact h.pr p q h1 h2 om e1 e2
theorem Srt.adj (hR:SWO R) {a b:Int} {l:List α} (h:∀ k,a<k→k<b→R (gi l k) (gi l (k - 1))=false):Srt R a b l:=by
 have key:∀ (n:Nat) (i:Int),a≤i→i+n+1<b→R (gi l (i+n+1)) (gi l i)=false:=by
  intro n
  induction n with
  | zero=>intro i h1 h2;have:=h (i+1) om (by simp at h2;omega);simpa using this
  | succ n ih =>
   intro i h1 h2
   have e:=ih i h1 om
   have e2:=h (i+(n+1:Nat)+1) om h2
   have e3:(i+(n+1:Nat)+1 - 1:Int)=i+n+1:=by omega
   rw [e3] at e2
   exact hR.ntr _ _ _ e2 e
 intro i j h1 h2 h3
 have:=key (j - i - 1).toNat i h1 om
 have e:i+((j - i - 1).toNat:Int)+1=j:=by omega
 rwa [e] at this
def Heap (R:α→α→Bool) (f k n:Int) (l:List α):Prop:=∀ r c,k≤r→(c=2 * r+1∨c=2 * r+2)→c<n→R (gi l (f+r)) (gi l (f+c))=false
structure HeapI (R:α→α→Bool) (f k n r:Int) (l:List α):Prop where
 b:k≤r
 ot:∀ q c,k≤q→q≠r→(c=2 * q+1∨c=2 * q+2)→c<n→R (gi l (f+q)) (gi l (f+c))=false
 gr:∀ q c,k≤q→(r=2 * q+1∨r=2 * q+2)→(c=2 * r+1∨c=2 * r+2)→c<n→R (gi l (f+q)) (gi l (f+c))=false
theorem HeapI.start {f k n:Int} {l:List α} (hk:0≤k) (h:Heap R f (k+1) n l):HeapI R f k n k l :=
 ⟨om,fun q c h1 h2 h3 h4=>h q c om h3 h4,fun q c h1 h2=>absurd h1 om⟩
theorem HeapI.done {f k n r:Int} {l:List α} (h:HeapI R f k n r l) (hr:∀ c,(c=2 * r+1∨c=2 * r+2)→c<n→R (gi l (f+r)) (gi l (f+c))=false):Heap R f k n l:=by
 intro q c h1 h2 h3
 by_cases e:q=r
 ·subst e;exact hr c h2 h3
 ·exact h.ot q c h1 e h2 h3
theorem HeapI.step (hR : SWO R) {f k n r c : Int} {l : List α} (h : HeapI R f k n r l) (h0 : 0 ≤ f ∧ 0 ≤ k ∧ f + n ≤ l.length) (hc : c = 2 * r + 1 ∨ c = 2 * r + 2) (hcn : c < n) (hr : R (gi l (f + r)) (gi l (f + c)) = true)
    (ho:∀ d,(d=2 * r+1∨d=2 * r+2)→d<n→R (gi l (f+c)) (gi l (f+d))=false):HeapI R f k n c (swp l (f+r) (f+c)):=by
 have hb:=h.b
 have hg:=fun (k:Int) (hk:0≤k)=>zjh l (f+r) (f+c) k om om hk
 refine ⟨om,fun q d h1 h2 h3 h4=>?_,fun q d h1 h2 h3 h4=>?_⟩
 ·rw [hg (f+q) om,hg (f+d) om,if_neg om]
  by_cases e:q=r
  ·subst e
   rw [if_pos rfl]
   by_cases e2:d=c
   ·subst e2;rw [if_pos rfl];exact hR.asym _ _ hr
   ·rw [if_neg om,if_neg om]
    exact ho d h3 h4
  ·rw [if_neg om]
   by_cases e2:d=r
   ·subst e2
    rw [if_neg om,if_pos rfl]
    exact h.gr q c h1 h3 hc hcn
   ·rw [if_neg om,if_neg om]
    exact h.ot q d h1 e h3 h4
 ·have e:q=r:=by omega
  subst e
  rw [hg (f+q) om,hg (f+d) om,if_neg om,if_pos rfl,if_neg om,if_neg om]
  exact h.ot c d om om h3 h4
theorem Heap.top (hR:SWO R) {f n:Int} {l:List α} (h:Heap R f 0 n l):∀ (m:Nat),(m:Int)<n→R (gi l f) (gi l (f+m))=false:=by
 intro m
 induction m using Nat.strongRecOn with
 | _ m ih =>
  intro hm
  by_cases e:m=0
  ·subst e;simpa using hR.irr _
  ·have h1:=ih ((m - 1) / 2) om om
   exact hR.ntr _ _ _ h1 (h (((m - 1) / 2:Nat):Int) m om om hm)
structure Done (R:α→α→Bool) (x1 x2 a b:Int) (l:List α):Prop where
 d:∀ i j,x1≤i→i<j→j<x2→(i<a∨b≤j)→R (gi l j) (gi l i)=false
 p:0<x1→∀ k,x1≤k→k<x2→R (gi l k) (gi l (x1 - 1))=false
theorem Done.sw {x1 x2 a b:Int} {l l':List α} (h:Done R x1 x2 a b l) (hs:Sw a b l l') (h0:0≤x1∧x1≤a∧a≤b∧b≤x2∧x2≤l.length):Done R x1 x2 a b l':=by
 have ho:=fun (k:Int) (hk:0≤k) (h2:k<a∨b≤k)=>hs.out om om hk h2
 refine ⟨fun i j h1 h2 h3 h4=>?_,fun hp k h1 h2=>?_⟩
 ·by_cases ei:i<a∨b≤i
  ·rw [ho i om ei]
   by_cases ej:j<a∨b≤j
   ·rw [ho j om ej];exact h.d i j h1 h2 h3 h4
   ·exact hs.all om om (P:=fun y=>R y (gi l i)=false) (fun k k1 k2=>h.d i k h1 om om om) j om om
  ·rw [ho j om om]
   exact hs.all om om (P:=fun y=>R (gi l j) y=false) (fun k k1 k2=>h.d k j om om h3 om) i om om
 ·rw [ho (x1 - 1) om om]
  by_cases ek:k<a∨b≤k
  ·rw [ho k om ek];exact h.p hp k h1 h2
  ·exact hs.all om om (P:=fun y=>R y (gi l (x1 - 1))=false) (fun k k1 k2=>h.p hp k om om) k om om
theorem Done.fin {x1 x2 a b:Int} {l:List α} (h:Done R x1 x2 a b l) (hs:Srt R a b l):Srt R x1 x2 l:=fun i j h1 h2 h3=>by
 by_cases e:i<a∨b≤j
 ·exact h.d i j h1 h2 h3 e
 ·exact hs i j om h2 om
theorem Done.pb {x1 x2 a b:Int} {l:List α} (h:Done R x1 x2 a b l) (h0:0≤x1∧x1≤a∧b≤x2) (ha:0<a):∀ k,a≤k→k<b→R (gi l k) (gi l (a - 1))=false:=fun k h1 h2=>by
 by_cases e:a=x1
 ·subst e;exact h.p ha k h1 om
 ·exact h.d (a - 1) k om om om om
theorem Done.left (hR : SWO R) {x1 x2 a b mid : Int} {l l' : List α} {p : α} (h : Done R x1 x2 a b l) (h0 : 0 ≤ x1 ∧ x1 ≤ a ∧ b ≤ x2 ∧ x2 ≤ l.length ∧ a ≤ mid ∧ mid < b) (hp : gi l mid = p) (lo : ∀ k, a ≤ k → k < mid → R (gi l k) p = true) (hi : ∀ k, mid < k → k < b → R (gi l k) p = false)
    (hs:Sw a mid l l') (ht:Srt R a mid l'):Done R x1 x2 (mid+1) b l':=by
 have hd:=h.sw (hs.mono (c:=a) (d:=b) om om) om
 have ho:=fun (k:Int) (hk:0≤k) (h2:k<a∨mid≤k)=>hs.out om om hk h2
 have lo':=hs.all om om (P:=fun y=>R y p=true) lo
 refine ⟨fun i j h1 h2 h3 h4=>?_,hd.p⟩
 by_cases e:i<a∨b≤j
 ·exact hd.d i j h1 h2 h3 e
 ·by_cases ei:i<mid
  ·by_cases ej:j<mid
   ·exact ht i j om h2 ej
   ·rw [ho j om om]
    by_cases ej2:j=mid
    ·subst ej2;rw [hp];exact hR.asym _ _ (lo' i om ei)
    ·exact hR.ntr _ _ _ (hi j om om) (hR.asym _ _ (lo' i om ei))
  ·have e3:i=mid:=by omega
   subst e3
   rw [ho i om om,ho j om om,hp]
   exact hi j om om
theorem Done.right (hR : SWO R) {x1 x2 a b mid : Int} {l l' : List α} {p : α} (h : Done R x1 x2 a b l) (h0 : 0 ≤ x1 ∧ x1 ≤ a ∧ b ≤ x2 ∧ x2 ≤ l.length ∧ a ≤ mid ∧ mid < b) (hp : gi l mid = p) (lo : ∀ k, a ≤ k → k < mid → R (gi l k) p = true) (hi : ∀ k, mid < k → k < b → R (gi l k) p = false)
    (hs:Sw (mid+1) b l l') (ht:Srt R (mid+1) b l'):Done R x1 x2 a mid l':=by
 have hd:=h.sw (hs.mono (c:=a) (d:=b) om om) om
 have ho:=fun (k:Int) (hk:0≤k) (h2:k<mid+1∨b≤k)=>hs.out om om hk h2
 have hi':=hs.all om om (P:=fun y=>R y p=false) (fun k k1 k2=>hi k om k2)
 refine ⟨fun i j h1 h2 h3 h4=>?_,hd.p⟩
 by_cases e:i<a∨b≤j
 ·exact hd.d i j h1 h2 h3 e
 ·by_cases ej:j=mid
  ·subst ej
   rw [ho j om om,ho i om om,hp]
   exact hR.asym _ _ (lo i om h2)
  ·by_cases ei:i<mid
   ·rw [ho i om om]
    exact hR.ntr _ _ _ (hi' j om om) (hR.asym _ _ (lo i om ei))
   ·by_cases ei2:i=mid
    ·subst ei2
     rw [ho i om om,hp]
     exact hi' j om om
    ·exact ht i j om h2 om
theorem Done.eqs (hR : SWO R) {x1 x2 a b m : Int} {l l' : List α} {p : α} (h : Done R x1 x2 a b l) (h0 : 0 ≤ x1 ∧ x1 ≤ a ∧ b ≤ x2 ∧ x2 ≤ l.length ∧ a + 1 ≤ m ∧ m ≤ b) (ha : 0 < a) (hc : R (gi l (a - 1)) p = false) (hs : Sw a b l l') (hp : gi l' a = p)
    (lo:∀ k,a<k→k<m→R p (gi l' k)=false) (hi:∀ k,m≤k→k<b→R p (gi l' k)=true):Done R x1 x2 m b l':=by
 have hd:=h.sw hs om
 have hpb:=hd.pb om ha
 have ho:=hs.out (k:=a - 1) om om om om
 have lo2:∀ k,a≤k→k<m→R p (gi l' k)=false:=fun k h1 h2=>by
  by_cases e:k=a
  ·subst e;rw [hp];exact hR.irr _
  ·exact lo k om h2
 refine ⟨fun i j h1 h2 h3 h4=>?_,hd.p⟩
 by_cases e:i<a∨b≤j
 ·exact hd.d i j h1 h2 h3 e
 ·by_cases ej:j<m
  ·have q:=hpb j om om
   rw [ho] at q
   exact hR.ntr _ _ _ (hR.ntr _ _ _ q hc) (lo2 i om om)
  ·exact hR.ntr _ _ _ (hR.asym _ _ (hi j om om)) (lo2 i om om)
end
end Go.Proofs.Ytaageiiodlfeiaa
