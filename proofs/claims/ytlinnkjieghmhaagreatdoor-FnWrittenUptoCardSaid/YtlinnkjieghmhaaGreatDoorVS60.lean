import Derived.Test.YtlinnkjieghmhaaGreatDoorV48
set_option maxHeartbeats 4000000
set_option linter.unusedSimpArgs false
set_option linter.unusedVariables false
namespace Go.Proofs.YtlinnkjieghmhaaGreatDoor
open Go Go.Lite Go.Proofs

theorem jn_to {S α:Type} {f:(S→α)→α} {k:S→α} (J:S→Prop) (Q:α→Prop) (h1:∀ K:S→α,(∀ v,J v→Q (K v))→Q (f K)) (h2:∀ v,J v→Q (k v)):Q (jn f k):=h1 k h2
theorem z2d (c:ye) {x:yc} (hf:za9 x=true):za9 (l1Wed c x).1=true:=by
 unfold l1Wed
 refine jn_to (fun _=>True) (fun (r:yc×Int×Int)=>za9 r.1=true) (fun K hK=>hK _ trivial) fun j1 _=>?_
 refine zcu (fun v=>za9 ⟨v.2.1,v.2.2.1⟩=true) (fun v=>Int.toNat v.1) (fun (r:yc×Int×Int)=>za9 r.1=true) (fun v next hv hn=>?_) _ _ (Nat.lt_succ_self _) (by cases x;exact hf)
 refine zbe (p:=fun (r:yc×Int×Int)=>za9 r.1=true) (fun c1=>?_) (fun _=>hv)
 have c1:=of_decide_eq_true c1
 refine jn_to (fun _=>True) (fun (r:yc×Int×Int)=>za9 r.1=true) (fun K hK=>hK _ trivial) fun j2 _=>?_
 refine jn_to (fun _=>True) (fun (r:yc×Int×Int)=>za9 r.1=true) (fun K hK=>hK _ trivial) fun j3 _=>?_
 refine zbe (p:=fun (r:yc×Int×Int)=>za9 r.1=true) (fun _=>hn _ hv zaq) (fun _=>?_)
 refine jn_to (fun _=>True) (fun (r:yc×Int×Int)=>za9 r.1=true) (fun K hK=>hK _ trivial) fun j4 _=>?_
 refine zbe (p:=fun (r:yc×Int×Int)=>za9 r.1=true) (fun _=>?_) (fun _=>?_)
 ·exact zbe (p:=fun (r:yc×Int×Int)=>za9 r.1=true) (fun c2=>hn _ c2 zaq) (fun _=>hn _ hv zaq)
 ·exact zbe (p:=fun (r:yc×Int×Int)=>za9 r.1=true) (fun c2=>hn _ c2 zaq) (fun _=>hn _ hv zaq)
theorem zux {x0:ye} (hc:CurOk x0) {x1:Int} (hm:0≤x1∧x1≤40):za9 (zhl x0 x1).1=true:=by
 unfold zhl
 refine jn_to (fun j=>(1≤j.1∧j.1≤25)∧CurOk ⟨x0.b,j.2.1,j.2.2⟩) (fun (r:yc×Int×Int)=>za9 r.1=true) (fun K hK=>hK _ ⟨mem4 (zcm hc zas).1,(zcm hc zas).2⟩) fun j1 hJ1=>?_
 refine jn_to (fun j=>(1≤j.1∧j.1≤9)∧CurOk ⟨x0.b,j.2.1,j.2.2⟩) (fun (r:yc×Int×Int)=>za9 r.1=true) (fun K hK=>hK _ ⟨mem3b (zcm hJ1.2 zas).1,(zcm hJ1.2 zas).2⟩) fun j2 hJ2=>?_
 refine jn_to (fun j=>CurOk ⟨x0.b,j.1,j.2.1⟩∧Mk j.2.2.2.1∧j.2.2.2.2=[]) (fun (r:yc×Int×Int)=>za9 r.1=true) (fun K3 hK3=>?_) fun j3 hJ3=>?_
 ·refine jn_to (fun j=>(0≤j.1∧j.1≤40)∧CurOk ⟨x0.b,j.2.1,j.2.2⟩) (fun (r:yc×Int×Int)=>za9 r.1=true) (fun K hK=>?_) fun j4 hJ4=>?_
  ·have h9:=zb2 hJ2.2 (n:=x1+1) om
   exact hK _ ⟨⟨h9.1.1,by have:=h9.1.2.2 om;dsimp only;omega⟩,h9.2⟩
  refine zcu (fun v=>((v.2.2.1.length:Int)+v.1≤40∧Mk v.2.2.1∧MkB v.2.2.1)∧v.2.2.2.1=[]∧CurOk ⟨x0.b,v.2.2.2.2.1,v.2.2.2.2.2⟩) (fun v=>Int.toNat v.1) (fun (r:yc×Int×Int)=>za9 r.1=true) (fun v1 next hI1 hn=>?_) _ _ (Nat.lt_succ_self _) ⟨⟨by simp only [List.length_nil];omega,Mk.nil,MkB.nil⟩,rfl,hJ4.2⟩
  refine zbe (p:=fun (r:yc×Int×Int)=>za9 r.1=true) (fun c1=>?_) (fun _=>hK3 _ ⟨hI1.2.2,hI1.1.2.1,hI1.2.1⟩)
  have c1:=of_decide_eq_true c1
  have hb2:=zb2 hI1.2.2 (n:=2) om
  refine jn_to (fun j=>CurOk ⟨x0.b,j.1,j.2.1⟩∧PaDp v1.2.2.1 j.2.2 1) (fun (r:yc×Int×Int)=>za9 r.1=true) (fun K5 hK5=>?_) fun j5 hJ5=>?_
  ·refine jn_to (fun j=>CurOk ⟨x0.b,j.2.1,j.2.2⟩) (fun (r:yc×Int×Int)=>za9 r.1=true) (fun K hK=>hK _ (zei hb2.2 (by have:=hJ2.1;omega))) fun j6 hJ6=>?_
   exact zbe (p:=fun (r:yc×Int×Int)=>za9 r.1=true) (fun _=>hK5 _ (zri hJ6 hI1.1.2.1 _ 1)) (fun _=>hK5 _ ⟨hJ6,zrt _ _⟩)
  refine jn_to (fun j=>CurOk ⟨x0.b,j.1,j.2.1⟩∧PaDp v1.2.2.1 j.2.2 2) (fun (r:yc×Int×Int)=>za9 r.1=true) (fun K7 hK7=>?_) fun j7 hJ7=>?_
  ·refine jn_to (fun j=>CurOk ⟨x0.b,j.2.1,j.2.2⟩) (fun (r:yc×Int×Int)=>za9 r.1=true) (fun K hK=>hK _ (zei hJ5.1 (by have:=hJ2.1;omega))) fun j8 hJ8=>?_
   exact zbe (p:=fun (r:yc×Int×Int)=>za9 r.1=true) (fun _=>hK7 _ (zri hJ8 hI1.1.2.1 _ 2)) (fun _=>hK7 _ ⟨hJ8,zrt _ _⟩)
  refine jn_to (fun j=>CurOk ⟨x0.b,j.1,j.2.1⟩∧0≤j.2.2∧j.2.2≤11) (fun (r:yc×Int×Int)=>za9 r.1=true) (fun K hK=>?_) fun j9 hJ9=>?_
  ·have h9:=zb2 hJ7.1 (n:=12) om
   exact hK _ ⟨h9.2,h9.1.1,by have:=h9.1.2.2 om;dsimp only;omega⟩
  refine zbx (fun i v=>CurOk ⟨x0.b,v.2.1,v.2.2⟩∧Born v1.2.2.1 (zb4 (yc.mk [(ya.mk (zcd ((v1.2.2.1.length:Nat):Int)) (1+((zbf (ye.mk x0.b v1.2.2.2.2.1 v1.2.2.2.2.2) 2).1)) j5.2.2 j7.2.2 j9.2.2 (-1))] ([]:List yb)) 0) i v.1) (fun (r:yc×Int×Int)=>za9 r.1=true) ⟨hJ9.1,born0 hJ9.2⟩ (fun i2 v2 next2 hi hI2 hn2=>?_) fun v2 hI2=>?_
  ·have h7:=zb2 hI2.1 (n:=6) om
   exact hn2 _ ⟨h7.2,zt7 hI2.2 hi hJ1.1 ⟨h7.1.1,h7.1.2.2 om⟩⟩
  have h8:=hI1.1.1
  have h5:=hb2.1.2.2 om
  have h7:=hI1.1.2.1.grow hI1.1.2.2 om (s:=(1+((zbf (ye.mk x0.b v1.2.2.2.2.1 v1.2.2.2.2.2) 2).1))) om hJ5.2.1 hJ7.2.1 hJ5.2.2 hJ7.2.2 hI2.2.1 hI2.2.2.1 (zww hI2.2)
  exact hn _ ⟨⟨by simp only [List.length_append,List.length_singleton];omega,h7.1,h7.2⟩,hI1.2.1,hI2.1⟩ zaq
 refine zbx (fun i v=>CurOk ⟨x0.b,v.2.1,v.2.2⟩∧Dying j3.2.2.2.1 v.1) (fun (r:yc×Int×Int)=>za9 r.1=true) ⟨hJ3.1,Dying.refl hJ3.2.1⟩ (fun i3 v3 next hi hI3 hn=>?_) fun v3 hI3=>?_
 ·refine jn_to (fun j=>CurOk ⟨x0.b,j.2.1,j.2.2⟩) (fun (r:yc×Int×Int)=>za9 r.1=true) (fun K hK=>hK _ (zei hI3.1 om)) fun j10 hJ10=>?_
  refine zbe (p:=fun (r:yc×Int×Int)=>za9 r.1=true) (fun _=>?_) (fun _=>hn _ ⟨hJ10,hI3.2⟩)
  refine zbx (fun i t=>Last v3.1 (zch (yc.mk v3.1 j3.2.2.2.2) ((i3:Nat):Int)) i3 i t) (fun (r:yc×Int×Int)=>za9 r.1=true) (last0 hJ3.2.1 hI3.2 hi) (fun i4 v4 next4 hi4 hI4 hn4=>?_) fun v4 hI4=>?_
  ·exact hn4 _ (ztl hI4 (zvc hJ3.2.1 hI3.2 (by have h9:=zgs hi4;dsimp only at h9;omega)).2)
  ·exact hn _ ⟨(zcm hJ10 zas).2,z3n hJ3.2.1 hI3.2 hi hI4 (mem5b (zcm hJ10 zas).1)⟩
 ·refine jn_to (fun j=>za9 ⟨j.1,j.2.1⟩=true) (fun (r:yc×Int×Int)=>za9 r.1=true) (fun K hK=>hK _ ?_) fun j11 hJ11=>hJ11
  have e:∀ z:yc,za9 z=true→za9 ⟨z.people,z.unions⟩=true:=fun z h=>by cases z;exact h
  have h9:=z2d (ye.mk x0.b v3.2.1 v3.2.2) (x:=yc.mk v3.1 j3.2.2.2.2) (by rw [hJ3.2.2];exact hI3.2.valid hJ3.2.1)
  revert h9
  generalize l1Wed (ye.mk x0.b v3.2.1 v3.2.2) (yc.mk v3.1 j3.2.2.2.2)=z
  intro h9
  exact e z.1 h9
theorem ztm {b:List Int} (hb:∀ y∈b,0≤y∧y≤255) (hx:b.length≤1048576):CurOk (zms b):=by
 unfold zms
 refine zcu (fun v=>(0≤v.1∧v.1≤1073741823)∧0≤v.2) (fun v=>4000 - Int.toNat v.2) (fun (r:ye)=>CurOk r) (fun v next hv hn=>?_) _ _ (Nat.lt_succ_self _) (by simp only;omega)
 refine zbe (p:=fun (r:ye)=>CurOk r) (fun c=>hn _ ?_ ?_) (fun _=>⟨hb,hx,⟨by simp only;omega,by simp only;omega⟩,by simp only [inR];omega⟩)
 ·exact ⟨zg9 _ 1073741823 1073741823 rfl om,by dsimp only;omega⟩
 ·simp only [Bool.and_eq_true,decide_eq_true_eq] at c;dsimp only;omega
def C4 (R:yc):LV×List (Nat×BC):=(.agg [.own 0,.own 1],[(0,.arr 6 R.people.length (rowOf (zbg true) R.people)),(1,.arr 4 R.unions.length (rowOf (zbi true) R.unions))])
def zbv (x0:List Int) (x1:Int):yc:=((zhl (zms x0) (Max.max 0 (Min.min x1 40))).1)
def A4 (x0:List Int) (x1:Int):Ann:=let q1:=Max.max 0 (Min.min x1 40);.reg 2 [] [(1001,k14 6 [] x0),(1005,k13 10 [1006] (zms x0) q1)] [4] [4,1010,2010] [] [] [] [0,4] (rt [(0,some 1010),(1,some 2010)] (C4 ((zhl (zms x0) q1).1)))
theorem zkw (x0:List Int) (x1:Int) (hx:x0.length≤1048576) (hb:∀ y∈x0,0≤y∧y≤255):FnT Tryz.prog 4 [.ro false 1 x0.length (rowOf (cInt .u8) x0),.int .i64 x1] (C4 (zbv x0 x1)):=by
 have aux:∀ R,zbv x0 x1=R→slim (C4 R) (A4 x0 x1) []:=by
  intro R hR
  refine rg ⟨⟨by trivial,by trivial⟩,⟨by (exact ztm hb hx),by (intros;omega)⟩,trivial⟩ ?_
  exact congrArg C4 hR
 exact Fn.go 11 Tryz.func4 (by kernel_rfl) (by kernel_rfl) (by simp [C4,Frs,FrsL,FrsB,rowOf,cInt,cBool,cStr,cSl,zdm,zbg,zbi,zcf,zbt,zft]) (A4 x0 x1) (by kernel_rfl) (aux _ rfl)
def k4 (x0:List Int) (x1:Int):Cl:=(hres (C4 (zbv x0 x1)),k2 (zkw x0 x1))
section
variable {α:Type} [Inhabited α]
theorem z3k (l:List α) (i k:Int) (x:α) (hi:0≤i∧i<l.length) (hk:0≤k):gi (l.set i.toNat x) k=if k=i then x else gi l k:=by
 unfold gi
 by_cases e:k=i
 ·subst e
  rw [if_pos rfl,List.getD_eq_getElem?_getD,List.getElem?_set_self om]
  rfl
 ·rw [if_neg e,List.getD_eq_getElem?_getD,List.getD_eq_getElem?_getD,List.getElem?_set_ne om]
theorem ztr (l:List α) (i j k:Int) (hi:0≤i∧i<l.length) (hj:0≤j∧j<l.length) (hk:0≤k):gi (swp l i j) k=if k=j then gi l i else if k=i then gi l j else gi l k:=by
 unfold swp
 rw [z3k _ _ _ _ (by simpa using hj) hk,z3k _ _ _ _ hi hk]
theorem zwg (l:List α) (i:Int) (h0:0≤i) (h:i<l.length):gi l i=l[i.toNat]' om:=by
 unfold gi
 rw [List.getD_eq_getElem?_getD,List.getElem?_eq_getElem om]
 rfl
def Srt (R:α→α→Bool) (a b:Int) (l:List α):Prop:=∀ i j,a≤i→i<j→j<b→R (gi l j) (gi l i)=false
end
section
variable {α:Type}
structure SWO (R:α→α→Bool):Prop where
 irr:∀ x,R x x=false
 asym:∀ x y,R x y=true→R y x=false
 ntr:∀ x y z,R x y=false→R y z=false→R x z=false
theorem SWO.lt_le {R:α→α→Bool} (h:SWO R) {x y z:α} (h1:R x y=true) (h2:R z y=false):R x z=true:=by
 cases e:R x z with
 | true=>rfl
 | false=>rw [h.ntr x z y e h2] at h1;cases h1
theorem SWO.le_lt {R:α→α→Bool} (h:SWO R) {x y z:α} (h1:R y x=false) (h2:R y z=true):R x z=true:=by
 cases e:R x z with
 | true=>rfl
 | false=>rw [h.ntr y x z h1 e] at h2;cases h2
end
section
variable {α:Type} [Inhabited α]
theorem Srt.pairwise {R:α→α→Bool} {l:List α} (h:Srt R 0 l.length l):l.Pairwise fun x y=>R y x=false:=by
 rw [List.pairwise_iff_getElem]
 intro i j hi hj hij
 have:=h i j om om om
 rw [zwg l i om om,zwg l j om om] at this
 simpa using this
end

section
variable {α:Type} [Inhabited α] {R:α→α→Bool} {x1 x2 i j:Int} {l0 l:List α} {p:α}
end
theorem w1 {p:Prop} [Decidable p]:decide p=true↔p:=by simp
theorem w2 {p:Prop} [Decidable p]:decide p=false↔¬ p:=by simp
theorem w3 {a b:Bool}:(a&&b)=true↔a=true∧b=true:=by simp
theorem w4 {a b:Bool}:(a&&b)=false↔a=false∨b=false:=Bool.and_eq_false_iff
section
variable {α:Type} [Inhabited α] {R:α→α→Bool}
structure InsI (R:α→α→Bool) (a i j:Int) (l:List α):Prop where
 b:a≤j∧j≤i
 pr:∀ p q,a≤p→p<q→q≤i→p≠j→q≠j→R (gi l q) (gi l p)=false
 up:∀ q,j<q→q≤i→R (gi l q) (gi l j)=false
theorem InsI.start {a i:Int} {l:List α} (h:a≤i) (hs:Srt R a i l):InsI R a i i l :=
 ⟨om,fun p q h1 h2 h3 _ h5=>hs p q h1 h2 om,fun q h1 h2=>absurd h1 om⟩
theorem InsI.step (hR:SWO R) {a i j:Int} {l:List α} (h:InsI R a i j l) (ha:0≤a) (hl:i<l.length) (hj:a<j) (hr:R (gi l j) (gi l (j - 1))=true):InsI R a i (j - 1) (swp l j (j - 1)):=by
 have hb:=h.b
 have hg:=fun (k:Int) (hk:0≤k)=>ztr l j (j - 1) k om om hk
 refine ⟨om,fun p q h1 h2 h3 h4 h5=>?_,fun q h1 h2=>?_⟩
 ·rw [hg p om,hg q om,if_neg h4,if_neg h5]
  split
  ·rw [if_neg om]
   exact h.pr p (j - 1) h1 om om om om
  ·split
   ·exact h.pr (j - 1) q om om h3 om om
   ·exact h.pr p q h1 h2 h3 om om
 ·rw [hg q om,hg (j - 1) om,if_neg om,if_pos rfl]
  split
  ·exact hR.asym _ _ hr
  ·exact h.up q om h2
theorem InsI.done (hR:SWO R) {a i j:Int} {l:List α} (h:InsI R a i j l) (hr:a<j→R (gi l j) (gi l (j - 1))=false):Srt R a (i+1) l:=by
 have hb:=h.b
 intro p q h1 h2 h3
 by_cases e1:p=j
 ·subst e1;exact h.up q h2 om
 ·by_cases e2:q=j
  ·subst e2
   by_cases e3:p=q - 1
   ·subst e3;exact hr om
   ·exact hR.ntr _ _ _ (hr om) (h.pr p (q - 1) h1 om om e1 om)
  ·exact h.pr p q h1 h2 om e1 e2
end

theorem ze1 {α:Type} (l:List α) (d:α) {i:Nat} (hi:i<l.length):l.take (i+1)=l.take i++[l.getD i d]:=by
 rw [List.take_add_one,List.getD_eq_getElem?_getD,List.getElem?_eq_getElem hi];rfl
theorem zkd {α : Type} [Inhabited α] {R : α → α → Prop} : ∀ {l : List α}, l.Pairwise R → ∀ k : Nat, k < l.length → ∀ j, j < k → R (l.getD j default) (l.getD k default)
  | [],_,k,hk,_,_=>absurd hk (Nat.not_lt_zero _)
  | a :: l,h,k,hk,j,hj=>by
    obtain ⟨h1,h2⟩:=List.pairwise_cons.1 h
    obtain ⟨k,rfl⟩:∃ m,k=m+1:=⟨k - 1,om⟩
    rw [List.length_cons] at hk
    rw [List.getD_cons_succ]
    cases j with
    | zero=>rw [List.getD_cons_zero];exact h1 _ (zd0 om)
    | succ j=>rw [List.getD_cons_succ];exact zkd h2 k om j om
def kLt (keys:List Int) (a b:Int):Prop:=keys.getD a.toNat default<keys.getD b.toNat default∨(keys.getD a.toNat default=keys.getD b.toNat default∧a<b)
def upto (n:Nat):List Int:=(List.range n).map fun j=>((j:Nat):Int)
theorem mem_upto {n:Nat} {a:Int}:a∈upto n↔0≤a∧a<n:=by
 unfold upto
 rw [List.mem_map]
 constructor
 ·rintro ⟨j,hj,rfl⟩;have:=List.mem_range.1 hj;omega
 ·intro h;exact ⟨a.toNat,List.mem_range.2 om,om⟩
theorem zee (n:Nat):(upto n).length=n:=by simp [upto]
theorem zls (n:Nat):(upto n).Nodup:=by
 unfold upto
 rw [List.nodup_iff_pairwise_ne,List.pairwise_map]
 exact (List.nodup_iff_pairwise_ne.1 List.nodup_range).imp fun h e=>h om
theorem zsr (n:Nat):upto (n+1)=upto n++[((n:Nat):Int)]:=by simp [upto,List.range_succ]
structure OrdI (keys:List Int) (i:Nat) (v:List Int):Prop where
 perm:v.Perm (upto i)
 pw:v.Pairwise (kLt keys)
theorem OrdI.len {keys:List Int} {i:Nat} {v:List Int} (h:OrdI keys i v):v.length=i:=by rw [h.perm.length_eq,zee]
theorem OrdI.insert {keys : List Int} {i : Nat} {v : List Int} (h : OrdI keys i v) {c : Nat} (hc : c ≤ v.length) (h1 : ∀ m : Nat, m < c → ¬ keys.getD i default < keys.getD (v.getD m default).toNat default)
    (h2:c<v.length→keys.getD i default<keys.getD (v.getD c default).toNat default):OrdI keys (i+1) (v.take c++((i:Nat):Int) :: v.drop c):=by
 have hpw:=h.pw
 have hsp:(v.take c++v.drop c).Pairwise (kLt keys):=by rw [List.take_append_drop];exact hpw
 obtain ⟨p1,p2,p3⟩:=List.pairwise_append.1 hsp
 have hi:∀ a∈v,a<i:=fun a ha=>(mem_upto.1 (h.perm.mem_iff.1 ha)).2
 refine ⟨?_,List.pairwise_append.2 ⟨p1,List.pairwise_cons.2 ⟨fun b hb=>?_,p2⟩,fun a ha b hb=>?_⟩⟩
 ·refine List.Perm.trans List.perm_middle ?_
  rw [List.take_append_drop,zsr]
  exact List.Perm.trans (List.Perm.cons _ h.perm) (List.perm_append_comm (l₁:=[((i:Nat):Int)]))
 ·obtain ⟨m,hm,e⟩:=zf2 (d:=default) hb
  rw [List.length_drop] at hm
  have e2:b=v.getD (c+m) default:=by
   rw [← e,List.getD_eq_getElem?_getD,List.getD_eq_getElem?_getD,List.getElem?_drop]
  have hk:=h2 om
  left
  rw [Int.toNat_natCast,e2]
  rcases Nat.eq_zero_or_pos m with g | g
  ·subst g;exact hk
  ·have:=zkd hpw (c+m) om c om
   rcases this with q | q<;>omega
 ·rcases List.mem_cons.1 hb with e | hb'
  ·subst e
   obtain ⟨m,hm,e⟩:=zf2 (d:=default) ha
   rw [List.length_take] at hm
   have e2:a=v.getD m default:=by
    rw [← e,List.getD_eq_getElem?_getD,List.getD_eq_getElem?_getD,List.getElem?_take,if_pos om]
   have hk:=h1 m om
   have ha':=hi a (List.mem_of_mem_take ha)
   unfold kLt
   rw [Int.toNat_natCast,e2]
   rw [e2] at ha'
   omega
  ·exact p3 a ha b hb'
def zb7 (x0:List Int):(List Int):=loopN (fun i1 (v1:(List Int)) nx1=>loopN (fun i2 (v2:(List Int)×Bool) next=>bif ((!v2.2)&&(decide ((x0.getD i1 default)<(x0.getD ((v1.getD i2 default).toNat) default)))) then (next (((v2.1++[((i1:Nat):Int)])++[(v1.getD i2 default)]),true)) else (next ((v2.1++[(v1.getD i2 default)]),v2.2))) (fun (v2:(List Int)×Bool)=>bif (!v2.2) then (nx1 (v2.1++[((i1:Nat):Int)])) else (nx1 v2.1)) v1.length 0 (([]:List Int),false)) (fun (v1:(List Int))=>v1) x0.length 0 ([]:List Int)
end Go.Proofs.YtlinnkjieghmhaaGreatDoor
