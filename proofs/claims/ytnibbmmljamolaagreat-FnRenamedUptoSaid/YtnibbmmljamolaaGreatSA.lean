import Derived.Test.YtnibbmmljamolaaGreatV47
set_option maxHeartbeats 4000000
set_option linter.unusedSimpArgs false
set_option linter.unusedVariables false
namespace Go.Proofs.YtnibbmmljamolaaGreat
open Go Go.Lite Go.Proofs
theorem Up.head{x : yc}{p q : Int}{n : Nat}(h : Up x p n q) : (n = 0 ∧ q = p) ∨ ∃r m, r ∈ zam x p ∧ n = m + 1 ∧ Up x r m q := by
 induction h with
 |zero =>exact .inl ⟨rfl,rfl⟩
 |@step n a q h hq ih =>
  rcases ih with⟨e1,e2⟩ | ⟨r,m,h1,h2,h3⟩
  ·subst e1; subst e2; exact .inr ⟨q, 0, hq, rfl, .zero⟩
  exact .inr ⟨r,m+1,h1,vdh,.step h3 hq⟩
theorem Up.cons{x : yc}{p r q : Int}{n : Nat}(hr : r ∈ zam x p)(h : Up x r n q) : Up x p (n + 1) q := by
 induction h with
 |zero =>exact .step .zero hr
 |step _ hq ih =>exact .step ih hq
section
variable {α:Type} [Inhabited α]
theorem z4l(l : List α)(i k : Int)(x : α)(hi : 0 ≤ i ∧ i < l.length)(hk : 0 ≤ k) : gi (l.set i.toNat x) k = if k = i then x else gi l k := by
 unfold gi;by_cases e:k=i
 ·subst e;rw [if_pos rfl, oi, List.getElem?_set_self vdh];rfl
 rw[if_neg e,oi,oi,List.getElem?_set_ne vdh]
theorem zmt(l:List α)(i j k:Int)(hi:0≤i∧i<l.length)(hj:0≤j∧j<l.length)(hk:0≤k):gi (swp l i j) k=if k=j then gi l i else if k=i then gi l j else gi l k:=by unfold swp;rw[z4l _ _ _ _ vcZ hk,z4l _ _ _ _ hi hk]
inductive Sw (a b : Int) (l : List α) : List α → Prop
  |refl:Sw a b l l
  |step {l':List α} (h:Sw a b l l') (i j:Int) (hi:a≤i∧i<b) (hj:a≤j∧j<b):Sw a b l (swp l' i j)
theorem Sw.len{a b : Int}{l l' : List α}(h : Sw a b l l') : l'.length = l.length := by
 induction h with
 |refl =>rfl
 |step h i j hi hj ih =>rw[za4,ih]
theorem Sw.trans{a b : Int}{l m n : List α}(h : Sw a b l m)(h2 : Sw a b m n) : Sw a b l n := by
 induction h2 with
 |refl =>exact h
 |step _ i j hi hj ih =>exact .step ih i j hi hj
theorem Sw.mono{a b c d : Int}{l m : List α}(h : Sw a b l m)(h1 : c ≤ a)(h2 : b ≤ d) : Sw c d l m := by
 induction h with
 |refl =>exact .refl
 |step _ i j hi hj ih =>exact .step ih i j vdh vdh
theorem Sw.one{a b:Int}{l:List α}(i j:Int)(hi:a≤i∧i<b)(hj:a≤j∧j<b):Sw a b l (swp l i j):=.step .refl i j hi hj
theorem Sw.out{a b : Int}{l l' : List α}(h : Sw a b l l')(ha : 0 ≤ a)(hb : b ≤ l.length){k : Int}(hk : 0 ≤ k)(hk2 : k < a ∨ b ≤ k) : gi l' k = gi l k := by
 induction h with
 |refl =>rfl
 |step h i j hi hj ih =>have hl:=h.len;rw[zmt _ _ _ _ vdh vdh hk,if_neg vdh,if_neg vdh,ih]
theorem Sw.all{a b : Int}{l l' : List α}(h : Sw a b l l')(ha : 0 ≤ a)(hb : b ≤ l.length){P : α → Prop}(hP : ∀k, a ≤ k → k < b → P (gi l k)) : ∀k, a ≤ k → k < b → P (gi l' k) := by
 induction h with
 |refl =>exact hP
 |step h i j hi hj ih =>
  intro k h1 h2;have hl:=h.len;rw[zmt _ _ _ _ vdh vdh vdh];split
  ·exact ih _ hi.1 hi.2
  split
  ·exact ih _ hj.1 hj.2
  exact ih _ h1 h2
theorem zxq(l:List α)(i:Int)(h0:0≤i)(h:i<l.length):gi l i=l[i.toNat]' vdh:=by unfold gi;rw[oi,ol vdh];rfl
theorem z2p[DecidableEq α](l : List α)(i j : Int)(hi : 0 ≤ i ∧ i < l.length)(hj : 0 ≤ j ∧ j < l.length) : (swp l i j).Perm l := by
 rw[List.perm_iff_count];intro a;unfold swp;rw[List.count_set vc8,List.count_set vdh,zxq l i hi.1 hi.2,zxq l j hj.1 hj.2,List.getElem_set];have h1:l[i.toNat]' vdh=a→0<l.count a:=fun e=>List.count_pos_iff.2 (e ▸ List.getElem_mem _);have h2:l[j.toNat]' vdh=a→0<l.count a:=fun e=>List.count_pos_iff.2 (e ▸ List.getElem_mem _);by_cases e:i.toNat=j.toNat
 ·simp only [e, if_true, beq_iff_eq];split
  ·rename_i h; have := h2 h; omega
  omega
 simp only[e,if_false,beq_iff_eq];split<;>split
 ·rename_i h h'; have := h2 h'; omega
 ·rename_i h h'; have := h1 h; omega
 ·rename_i h h'; have := h2 h'; omega
 omega
theorem Sw.perm[DecidableEq α]{a b : Int}{l l' : List α}(h : Sw a b l l')(ha : 0 ≤ a)(hb : b ≤ l.length) : l'.Perm l := by
 induction h with
 |refl =>exact List.Perm.refl _
 |step h i j hi hj ih =>have hl:=h.len;exact(z2p _ i j vdh vdh).trans ih
def Srt(R:α→α→Bool)(a b:Int)(l:List α):Prop:=∀i j,a≤i→i<j→j<b→R (gi l j) (gi l i)=false
end
section
variable {α:Type}
structure SWO(R : α → α → Bool) : Prop where
  irr:∀x,R x x=false
  asym:∀x y,R x y=true→R y x=false
  ntr:∀x y z,R x y=false→R y z=false→R x z=false
end
section
variable {α:Type} [Inhabited α]
theorem Srt.pairwise{R:α→α→Bool}{l:List α}(h:Srt R 0 l.length l):l.Pairwise fun x y=>R y x=false:=by rw[List.pairwise_iff_getElem];intro i j hi hj hij;have:=h i j vdh vdh vdh;rw[zxq l i vdh vdh,zxq l j vdh vdh] at this;simpa using this
end

theorem Sw.both{α:Type}[Inhabited α]{a b:Int}{l l':List α}(h:Sw a b l l'):Sw a b l l'∧l'.length=l.length:=⟨h,h.len⟩
theorem tdiv2(n : Int)(h : -1 ≤ n) : 0 ≤ n.tdiv 2 ∧ 2 * n.tdiv 2 ≤ n + 1 := by
 by_cases e:0≤n
 ·rw [Int.tdiv_eq_ediv_of_nonneg e]; omega
 have:n=-1:=vdh
 subst this;decide
theorem tdiv4(n:Int)(h:0≤n):0≤n.tdiv 4∧4 * n.tdiv 4≤n∧n≤4 * n.tdiv 4+3:=by rw[Int.tdiv_eq_ediv_of_nonneg h];omega
theorem tdiv8(n:Int)(h:0≤n):0≤n.tdiv 8∧8 * n.tdiv 8≤n:=by rw[Int.tdiv_eq_ediv_of_nonneg h];omega
theorem zfi(x m:Int)(hm:0≤m∧m<9223372036854775808):0≤bits .and .u64 x m∧bits .and .u64 x m≤m:=by have h1:(BitVec.ofInt 64 x &&& BitVec.ofInt 64 m).toNat≤m.toNat:=(by rw[BitVec.toNat_and];refine Nat.le_trans Nat.and_le_right ?_;simp only[BitVec.toNat_ofInt];omega);have e:bits .and .u64 x m=((BitVec.ofInt 64 x &&& BitVec.ofInt 64 m).toNat:Int):=(by show IntKind.wrap .u64 _=_;exact zc3 (n:=((BitVec.ofInt 64 x &&& BitVec.ofInt 64 m).toNat:Int)) (by simp only[inR];omega));rw[e];omega
theorem Sw.via{α:Type}[Inhabited α]{a b c d:Int}{l m n:List α}(h:Sw c d m n)(h2:Sw a b l m)(h3:a≤c)(h4:d≤b):Sw a b l n:=h2.trans (h.mono h3 h4)
structure PI{α : Type}[Inhabited α](R : α → α → Bool)(x1 x2 : Int)(l0 : List α)(p : α)(i j : Int)(l : List α) : Prop where
  b:x1+1≤i∧i≤j+2∧x1≤j∧j<x2∧i≤x2
  s:Sw x1 x2 l0 l
  pv:gi l x1=p
  lo:∀k,x1<k→k<i→R (gi l k) p=true
  hi:∀k,j<k→k<x2→R (gi l k) p=false
structure PartOk{α : Type}[Inhabited α](R : α → α → Bool)(x1 x2 : Int)(l0 : List α)(p : α)(mid : Int)(l : List α) : Prop where
  b:x1≤mid∧mid<x2
  s:Sw x1 x2 l0 l
  pv:gi l mid=p
  lo:∀k,x1≤k→k<mid→R (gi l k) p=true
  hi:∀k,mid<k→k<x2→R (gi l k) p=false
section
variable {α:Type} [Inhabited α] {R:α→α→Bool} {x1 x2 i j:Int} {l0 l:List α} {p:α}
theorem PI.up(h : PI R x1 x2 l0 p i j l)(hij : i ≤ j)(hr : R (gi l i) (gi l x1) = true) : PI R x1 x2 l0 p (i + 1) j l :=
  ⟨by have := h.b; omega, h.s, h.pv, fun k h1 h2 => by
    by_cases e:k=i
    · subst e;rw [h.pv] at hr;exact hr
    · exact h.lo k h1 vdh,h.hi⟩
theorem PI.down(h : PI R x1 x2 l0 p i j l)(hij : i ≤ j)(hr : R (gi l j) (gi l x1) = false) : PI R x1 x2 l0 p i (j - 1) l :=
  ⟨by have := h.b; omega, h.s, h.pv, h.lo, fun k h1 h2 => by
    by_cases e:k=j
    · subst e;rw [h.pv] at hr;exact hr
    · exact h.hi k vdh h2⟩
theorem PI.swap(h : PI R x1 x2 l0 p i j l)(h0 : 0 ≤ x1 ∧ x2 ≤ l0.length)(hij : i ≤ j)(hi : R (gi l i) (gi l x1) = false)(hj : R (gi l j) (gi l x1) = true) : PI R x1 x2 l0 p (i + 1) (j - 1) (swp l i j) := by
 have hb:=h.b;have hl:=h.s.len;have hne:i≠j:=fun e=>by subst e;rw[hi] at hj;cases hj
 have hg:=fun (k:Int) (hk:0≤k)=>zmt l i j k vdh vdh hk;rw[h.pv] at hi hj;refine⟨vdh,.step h.s _ _ vdh vdh,?_,fun k h1 h2=>?_,fun k h1 h2=>?_⟩
 ·rw [hg _ vdh, if_neg vdh, if_neg vdh, h.pv]
 ·rw [hg _ vdh, if_neg vdh];split
  ·exact hj
  exact h.lo k h1 vdh
 rw[hg _ vdh];split
 ·exact hi
 rw[if_neg vdh];exact h.hi k vdh h2
theorem PI.done(h : PI R x1 x2 l0 p i j l)(h0 : 0 ≤ x1 ∧ x2 ≤ l0.length)(hij : j < i) : PartOk R x1 x2 l0 p j (swp l j x1) := by
 have hb:=h.b;have hl:=h.s.len;have hg:=fun (k:Int) (hk:0≤k)=>zmt l j x1 k vdh vdh hk;refine⟨vdh,.step h.s _ _ vdh vdh,?_,fun k h1 h2=>?_,fun k h1 h2=>?_⟩
 ·rw [hg _ vdh];split
  ·rename_i e; rw [e]; exact h.pv
  rw[if_pos rfl];exact h.pv
 ·rw [hg _ vdh];split
  ·exact h.lo j vdh hij
  rw[if_neg vdh];exact h.lo k vdh vdh
 rw[hg _ vdh,if_neg vdh,if_neg vdh];exact h.hi k h1 h2
theorem PI.start(l : List α){x3 : Int}(h0 : 0 ≤ x1 ∧ x2 ≤ l.length)(h3 : x1 ≤ x3 ∧ x3 < x2) : PI R x1 x2 l (gi l x3) (x1 + 1) (x2 - 1) (swp l x1 x3) :=
  ⟨vdh, .step .refl _ _ vdh vdh, by
    rw[zmt l x1 x3 x1 vdh vdh vdh]
    split
    · rename_i e;rw [e]
    · rw [if_pos rfl],fun k h1 h2=>absurd h1 vdh,fun k h1 h2=>absurd h1 vdh⟩
end
theorem w1{p:Prop}[Decidable p]:decide p=true↔p:=vdj
theorem w2{p:Prop}[Decidable p]:decide p=false↔¬p:=vdj
theorem w3{a b:Bool}:(a&&b)=true↔a=true∧b=true:=vdj
theorem w4{a b:Bool}:(a&&b)=false↔a=false∨b=false:=Bool.and_eq_false_iff
theorem w5{a:Bool}:(!a)=true↔a=false:=vdj
theorem w6{a:Bool}:(!a)=false↔a=true:=vdj
end Go.Proofs.YtnibbmmljamolaaGreat
