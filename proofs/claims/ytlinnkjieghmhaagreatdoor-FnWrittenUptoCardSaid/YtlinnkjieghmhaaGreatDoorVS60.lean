import Derived.Test.YtlinnkjieghmhaaGreatDoorV48
set_option maxHeartbeats 4000000
set_option linter.unusedSimpArgs false
set_option linter.unusedVariables false
namespace Go.Proofs.YtlinnkjieghmhaaGreatDoor
open Go Go.Lite Go.Proofs
open _root_.Int renaming toNat→wo, toNat_natCast→yQ
open _root_.Nat renaming lt_succ_self→yD
open _root_.List renaming length_append→yo, length_singleton→yE, getD_eq_getElem?_getD→yn, getElem?_eq_getElem→yq, getElem_mem→Yt, pairwise_cons→YJ, length_cons→yv, getD_cons_zero→Yk, getD_cons_succ→YA, mem_range→yU, nodup_iff_pairwise_ne→YO, take_append_drop→Y6, pairwise_append→wR, not_mem_nil→Yd
open _root_.Inhabited renaming default→w9

theorem jn_to {S α:Type} {f:(S→α)→α} {k:S→α} (J:S→Prop) (Q:α→Prop) (h1:∀ K:S→α,(∀ v,J v→Q (K v))→Q (f K)) (h2:∀ v,J v→Q (k v)):Q (jn f k):=h1 k h2
theorem z2g (c:ye) {x:yc} (hf:za9 x=true):za9 (l1Wed c x).1=true:=by
 unfold l1Wed
 refine jn_to (fun _=>True) (fun (r:yc×Int×Int)=>za9 r.1=true) (fun K hK=>hK _ trivial) fun j1 _=>?_
 refine zcv (fun v=>za9 ⟨v.2.1,v.2.2.1⟩=true) (fun v=>wo v.1) (fun (r:yc×Int×Int)=>za9 r.1=true) (fun v next hv hn=>?_) _ _ (yD _) (by cases x;exact hf)
 refine zbe (p:=fun (r:yc×Int×Int)=>za9 r.1=true) (fun c1=>?_) (fun _=>hv)
 have c1:=of_decide_eq_true c1
 refine jn_to (fun _=>True) (fun (r:yc×Int×Int)=>za9 r.1=true) (fun K hK=>hK _ trivial) fun j2 _=>?_
 refine jn_to (fun _=>True) (fun (r:yc×Int×Int)=>za9 r.1=true) (fun K hK=>hK _ trivial) fun j3 _=>?_
 refine zbe (p:=fun (r:yc×Int×Int)=>za9 r.1=true) (fun _=>hn _ hv zaq) (fun _=>?_)
 refine jn_to (fun _=>True) (fun (r:yc×Int×Int)=>za9 r.1=true) (fun K hK=>hK _ trivial) fun j4 _=>?_
 refine zbe (p:=fun (r:yc×Int×Int)=>za9 r.1=true) (fun _=>?_) (fun _=>?_)
 ·exact zbe (p:=fun (r:yc×Int×Int)=>za9 r.1=true) (fun c2=>hn _ c2 zaq) (fun _=>hn _ hv zaq)
 ·exact zbe (p:=fun (r:yc×Int×Int)=>za9 r.1=true) (fun c2=>hn _ c2 zaq) (fun _=>hn _ hv zaq)
theorem zuz {x0:ye} (hc:CurOk x0) {x1:Int} (hm:0≤x1∧x1≤40):za9 (zhl x0 x1).1=true:=by
 unfold zhl
 refine jn_to (fun j=>(1≤j.1∧j.1≤25)∧CurOk ⟨x0.b,j.2.1,j.2.2⟩) (fun (r:yc×Int×Int)=>za9 r.1=true) (fun K hK=>hK _ ⟨mem4 (zcm hc zas).1,(zcm hc zas).2⟩) fun j1 hJ1=>?_
 refine jn_to (fun j=>(1≤j.1∧j.1≤9)∧CurOk ⟨x0.b,j.2.1,j.2.2⟩) (fun (r:yc×Int×Int)=>za9 r.1=true) (fun K hK=>hK _ ⟨mem3b (zcm hJ1.2 zas).1,(zcm hJ1.2 zas).2⟩) fun j2 hJ2=>?_
 refine jn_to (fun j=>CurOk ⟨x0.b,j.1,j.2.1⟩∧Mk j.2.2.2.1∧j.2.2.2.2=[]) (fun (r:yc×Int×Int)=>za9 r.1=true) (fun K3 hK3=>?_) fun j3 hJ3=>?_
 ·refine jn_to (fun j=>(0≤j.1∧j.1≤40)∧CurOk ⟨x0.b,j.2.1,j.2.2⟩) (fun (r:yc×Int×Int)=>za9 r.1=true) (fun K hK=>?_) fun j4 hJ4=>?_
  ·have h9:=zb2 hJ2.2 (n:=x1+1) om
   exact hK _ ⟨⟨h9.1.1,by have:=h9.1.2.2 om;dsimp only;omega⟩,h9.2⟩
  refine zcv (fun v=>((v.2.2.1.length:Int)+v.1≤40∧Mk v.2.2.1∧MkB v.2.2.1)∧v.2.2.2.1=[]∧CurOk ⟨x0.b,v.2.2.2.2.1,v.2.2.2.2.2⟩) (fun v=>wo v.1) (fun (r:yc×Int×Int)=>za9 r.1=true) (fun v1 next hI1 hn=>?_) _ _ (yD _) ⟨⟨by simp only [List.length_nil];omega,Mk.nil,MkB.nil⟩,rfl,hJ4.2⟩
  refine zbe (p:=fun (r:yc×Int×Int)=>za9 r.1=true) (fun c1=>?_) (fun _=>hK3 _ ⟨hI1.2.2,hI1.1.2.1,hI1.2.1⟩)
  have c1:=of_decide_eq_true c1
  have hb2:=zb2 hI1.2.2 (n:=2) om
  refine jn_to (fun j=>CurOk ⟨x0.b,j.1,j.2.1⟩∧PaDp v1.2.2.1 j.2.2 1) (fun (r:yc×Int×Int)=>za9 r.1=true) (fun K5 hK5=>?_) fun j5 hJ5=>?_
  ·refine jn_to (fun j=>CurOk ⟨x0.b,j.2.1,j.2.2⟩) (fun (r:yc×Int×Int)=>za9 r.1=true) (fun K hK=>hK _ (zej hb2.2 (by have:=hJ2.1;omega))) fun j6 hJ6=>?_
   exact zbe (p:=fun (r:yc×Int×Int)=>za9 r.1=true) (fun _=>hK5 _ (zrk hJ6 hI1.1.2.1 _ 1)) (fun _=>hK5 _ ⟨hJ6,zrv _ _⟩)
  refine jn_to (fun j=>CurOk ⟨x0.b,j.1,j.2.1⟩∧PaDp v1.2.2.1 j.2.2 2) (fun (r:yc×Int×Int)=>za9 r.1=true) (fun K7 hK7=>?_) fun j7 hJ7=>?_
  ·refine jn_to (fun j=>CurOk ⟨x0.b,j.2.1,j.2.2⟩) (fun (r:yc×Int×Int)=>za9 r.1=true) (fun K hK=>hK _ (zej hJ5.1 (by have:=hJ2.1;omega))) fun j8 hJ8=>?_
   exact zbe (p:=fun (r:yc×Int×Int)=>za9 r.1=true) (fun _=>hK7 _ (zrk hJ8 hI1.1.2.1 _ 2)) (fun _=>hK7 _ ⟨hJ8,zrv _ _⟩)
  refine jn_to (fun j=>CurOk ⟨x0.b,j.1,j.2.1⟩∧0≤j.2.2∧j.2.2≤11) (fun (r:yc×Int×Int)=>za9 r.1=true) (fun K hK=>?_) fun j9 hJ9=>?_
  ·have h9:=zb2 hJ7.1 (n:=12) om
   exact hK _ ⟨h9.2,h9.1.1,by have:=h9.1.2.2 om;dsimp only;omega⟩
  refine zbx (fun i v=>CurOk ⟨x0.b,v.2.1,v.2.2⟩∧Born v1.2.2.1 (zb4 (yc.mk [(ya.mk (zcb ((v1.2.2.1.length:Nat):Int)) (1+((zbf (ye.mk x0.b v1.2.2.2.2.1 v1.2.2.2.2.2) 2).1)) j5.2.2 j7.2.2 j9.2.2 (-1))] ([]:List yb)) 0) i v.1) (fun (r:yc×Int×Int)=>za9 r.1=true) ⟨hJ9.1,born0 hJ9.2⟩ (fun i2 v2 next2 hi hI2 hn2=>?_) fun v2 hI2=>?_
  ·have h7:=zb2 hI2.1 (n:=6) om
   exact hn2 _ ⟨h7.2,zt8 hI2.2 hi hJ1.1 ⟨h7.1.1,h7.1.2.2 om⟩⟩
  have h8:=hI1.1.1
  have h5:=hb2.1.2.2 om
  have h7:=hI1.1.2.1.grow hI1.1.2.2 om (s:=(1+((zbf (ye.mk x0.b v1.2.2.2.2.1 v1.2.2.2.2.2) 2).1))) om hJ5.2.1 hJ7.2.1 hJ5.2.2 hJ7.2.2 hI2.2.1 hI2.2.2.1 (zwz hI2.2)
  exact hn _ ⟨⟨by simp only [yo,yE];omega,h7.1,h7.2⟩,hI1.2.1,hI2.1⟩ zaq
 refine zbx (fun i v=>CurOk ⟨x0.b,v.2.1,v.2.2⟩∧Dying j3.2.2.2.1 v.1) (fun (r:yc×Int×Int)=>za9 r.1=true) ⟨hJ3.1,Dying.refl hJ3.2.1⟩ (fun i3 v3 next hi hI3 hn=>?_) fun v3 hI3=>?_
 ·refine jn_to (fun j=>CurOk ⟨x0.b,j.2.1,j.2.2⟩) (fun (r:yc×Int×Int)=>za9 r.1=true) (fun K hK=>hK _ (zej hI3.1 om)) fun j10 hJ10=>?_
  refine zbe (p:=fun (r:yc×Int×Int)=>za9 r.1=true) (fun _=>?_) (fun _=>hn _ ⟨hJ10,hI3.2⟩)
  refine zbx (fun i t=>Last v3.1 (zch (yc.mk v3.1 j3.2.2.2.2) ((i3:Nat):Int)) i3 i t) (fun (r:yc×Int×Int)=>za9 r.1=true) (last0 hJ3.2.1 hI3.2 hi) (fun i4 v4 next4 hi4 hI4 hn4=>?_) fun v4 hI4=>?_
  ·exact hn4 _ (ztn hI4 (zve hJ3.2.1 hI3.2 (by have h9:=zgt hi4;dsimp only at h9;omega)).2)
  ·exact hn _ ⟨(zcm hJ10 zas).2,z3q hJ3.2.1 hI3.2 hi hI4 (mem5b (zcm hJ10 zas).1)⟩
 ·refine jn_to (fun j=>za9 ⟨j.1,j.2.1⟩=true) (fun (r:yc×Int×Int)=>za9 r.1=true) (fun K hK=>hK _ ?_) fun j11 hJ11=>hJ11
  have e:∀ z:yc,za9 z=true→za9 ⟨z.people,z.unions⟩=true:=fun z h=>by cases z;exact h
  have h9:=z2g (ye.mk x0.b v3.2.1 v3.2.2) (x:=yc.mk v3.1 j3.2.2.2.2) (by rw [hJ3.2.2];exact hI3.2.valid hJ3.2.1)
  revert h9
  generalize l1Wed (ye.mk x0.b v3.2.1 v3.2.2) (yc.mk v3.1 j3.2.2.2.2)=z
  intro h9
  exact e z.1 h9
theorem zto {b:List Int} (hb:∀ y∈b,0≤y∧y≤255) (hx:b.length≤1048576):CurOk (zmt b):=by
 unfold zmt
 refine zcv (fun v=>(0≤v.1∧v.1≤1073741823)∧0≤v.2) (fun v=>4000 - wo v.2) (fun (r:ye)=>CurOk r) (fun v next hv hn=>?_) _ _ (yD _) (by simp only;omega)
 refine zbe (p:=fun (r:ye)=>CurOk r) (fun c=>hn _ ?_ ?_) (fun _=>⟨hb,hx,⟨by simp only;omega,by simp only;omega⟩,by simp only [inR];omega⟩)
 ·exact ⟨zg9 _ 1073741823 1073741823 rfl om,by dsimp only;omega⟩
 ·simp only [Bool.and_eq_true,decide_eq_true_eq] at c;dsimp only;omega
def C4 (R:yc):LV×List (Nat×BC):=(.agg [.own 0,.own 1],[(0,.arr 6 R.people.length (rowOf (zbg true) R.people)),(1,.arr 4 R.unions.length (rowOf (zbi true) R.unions))])
def zbv (x0:List Int) (x1:Int):yc:=((zhl (zmt x0) (Max.max 0 (Min.min x1 40))).1)
def A4 (x0:List Int) (x1:Int):Ann:=let q1:=Max.max 0 (Min.min x1 40);.reg 2 [] [(1001,k14 6 [] x0),(1005,k13 10 [1006] (zmt x0) q1)] [4] [4,1010,2010] [] [] [] [0,4] (rt [(0,some 1010),(1,some 2010)] (C4 ((zhl (zmt x0) q1).1)))
theorem zkx (x0:List Int) (x1:Int) (hx:x0.length≤1048576) (hb:∀ y∈x0,0≤y∧y≤255):FnT Tryz.prog 4 [.ro false 1 x0.length (rowOf (cInt .u8) x0),.int .i64 x1] (C4 (zbv x0 x1)):=by
 have aux:∀ R,zbv x0 x1=R→slim (C4 R) (A4 x0 x1) []:=by
  intro R hR
  refine rg ⟨⟨by trivial,by trivial⟩,⟨by (exact zto hb hx),by (intros;omega)⟩,trivial⟩ ?_
  exact congrArg C4 hR
 exact Fn.go 11 Tryz.func4 (by kernel_rfl) (by kernel_rfl) (by simp [C4,Frs,FrsL,FrsB,rowOf,cInt,cBool,cStr,cSl,zdn,zbg,zbi,zcf,zbt,zfw]) (A4 x0 x1) (by kernel_rfl) (aux _ rfl)
def k4 (x0:List Int) (x1:Int):Cl:=(hres (C4 (zbv x0 x1)),k2 (zkx x0 x1))
section
variable {α:Type} [Inhabited α]
theorem z3n (l:List α) (i k:Int) (x:α) (hi:0≤i∧i<l.length) (hk:0≤k):gi (l.set i.toNat x) k=if k=i then x else gi l k:=by
 unfold gi
 by_cases e:k=i
 ·subst e
  rw [if_pos rfl,yn,List.getElem?_set_self om]
  rfl
 ·rw [if_neg e,yn,yn,List.getElem?_set_ne om]
theorem ziv (l:List α) (i j k:Int) (hi:0≤i∧i<l.length) (hj:0≤j∧j<l.length) (hk:0≤k):gi (swp l i j) k=if k=j then gi l i else if k=i then gi l j else gi l k:=by
 unfold swp
 rw [z3n _ _ _ _ (by simpa using hj) hk,z3n _ _ _ _ hi hk]
inductive Sw (a b : Int) (l : List α) : List α → Prop
  | refl:Sw a b l l
  | step {l':List α} (h:Sw a b l l') (i j:Int) (hi:a≤i∧i<b) (hj:a≤j∧j<b):Sw a b l (swp l' i j)
theorem Sw.len {a b:Int} {l l':List α} (h:Sw a b l l'):l'.length=l.length:=by
 induction h with
 | refl=>rfl
 | step h i j hi hj ih=>rw [zba,ih]
theorem Sw.trans {a b:Int} {l m n:List α} (h:Sw a b l m) (h2:Sw a b m n):Sw a b l n:=by
 induction h2 with
 | refl=>exact h
 | step _ i j hi hj ih=>exact .step ih i j hi hj
theorem Sw.mono {a b c d:Int} {l m:List α} (h:Sw a b l m) (h1:c≤a) (h2:b≤d):Sw c d l m:=by
 induction h with
 | refl=>exact .refl
 | step _ i j hi hj ih=>exact .step ih i j om om
theorem Sw.one {a b:Int} {l:List α} (i j:Int) (hi:a≤i∧i<b) (hj:a≤j∧j<b):Sw a b l (swp l i j):=.step .refl i j hi hj
theorem Sw.out {a b:Int} {l l':List α} (h:Sw a b l l') (ha:0≤a) (hb:b≤l.length) {k:Int} (hk:0≤k) (hk2:k<a∨b≤k):gi l' k=gi l k:=by
 induction h with
 | refl=>rfl
 | step h i j hi hj ih =>
  have hl:=h.len
  rw [ziv _ _ _ _ om om hk,if_neg om,if_neg om,ih]
theorem Sw.all {a b:Int} {l l':List α} (h:Sw a b l l') (ha:0≤a) (hb:b≤l.length) {P:α→Prop} (hP:∀ k,a≤k→k<b→P (gi l k)):∀ k,a≤k→k<b→P (gi l' k):=by
 induction h with
 | refl=>exact hP
 | step h i j hi hj ih =>
  intro k h1 h2
  have hl:=h.len
  rw [ziv _ _ _ _ om om om]
  split
  ·exact ih _ hi.1 hi.2
  ·split
   ·exact ih _ hj.1 hj.2
   ·exact ih _ h1 h2
theorem zqz (l:List α) (i:Int) (h0:0≤i) (h:i<l.length):gi l i=l[i.toNat]' om:=by
 unfold gi
 rw [yn,yq om]
 rfl
theorem z12 [DecidableEq α] (l:List α) (i j:Int) (hi:0≤i∧i<l.length) (hj:0≤j∧j<l.length):(swp l i j).Perm l:=by
 rw [List.perm_iff_count]
 intro a
 unfold swp
 rw [List.count_set (by simp;omega),List.count_set om,zqz l i hi.1 hi.2,zqz l j hj.1 hj.2,List.getElem_set]
 have h1:l[i.toNat]' om=a→0<l.count a:=fun e=>List.count_pos_iff.2 (e ▸ Yt _)
 have h2:l[j.toNat]' om=a→0<l.count a:=fun e=>List.count_pos_iff.2 (e ▸ Yt _)
 by_cases e:i.toNat=j.toNat
 ·simp only [e,if_true,beq_iff_eq]
  split
  ·rename_i h;have:=h2 h;omega
  ·omega
 ·simp only [e,if_false,beq_iff_eq]
  split<;>split
  ·rename_i h h';have:=h2 h';omega
  ·rename_i h h';have:=h1 h;omega
  ·rename_i h h';have:=h2 h';omega
  ·omega
theorem Sw.perm [DecidableEq α] {a b:Int} {l l':List α} (h:Sw a b l l') (ha:0≤a) (hb:b≤l.length):l'.Perm l:=by
 induction h with
 | refl=>exact List.Perm.refl _
 | step h i j hi hj ih =>
  have hl:=h.len
  exact (z12 _ i j om om).trans ih
def Srt (R:α→α→Bool) (a b:Int) (l:List α):Prop:=∀ i j,a≤i→i<j→j<b→R (gi l j) (gi l i)=false
end
section
variable {α:Type}
structure SWO (R:α→α→Bool):Prop where
 irr:∀ x,R x x=false
 asym:∀ x y,R x y=true→R y x=false
 ntr:∀ x y z,R x y=false→R y z=false→R x z=false
theorem SWO.lt_le {R:α→α→Bool} (h:SWO R) {x y z:α} (h1:R x y=true) (h2:R z y=false):R x z=true:=by
 cases e:R x z with
 | true=>rfl
 | false=>rw [h.ntr x z y e h2] at h1;cases h1
theorem SWO.le_lt {R:α→α→Bool} (h:SWO R) {x y z:α} (h1:R y x=false) (h2:R y z=true):R x z=true:=by
 cases e:R x z with
 | true=>rfl
 | false=>rw [h.ntr y x z h1 e] at h2;cases h2
end
section
variable {α:Type} [Inhabited α]
theorem Srt.pairwise {R:α→α→Bool} {l:List α} (h:Srt R 0 l.length l):l.Pairwise fun x y=>R y x=false:=by
 rw [List.pairwise_iff_getElem]
 intro i j hi hj hij
 have:=h i j om om om
 rw [zqz l i om om,zqz l j om om] at this
 simpa using this
end

structure PI {α:Type} [Inhabited α] (R:α→α→Bool) (x1 x2:Int) (l0:List α) (p:α) (i j:Int) (l:List α):Prop where
 b:x1+1≤i∧i≤j+2∧x1≤j∧j<x2∧i≤x2
 s:Sw x1 x2 l0 l
 pv:gi l x1=p
 lo:∀ k,x1<k→k<i→R (gi l k) p=true
 hi:∀ k,j<k→k<x2→R (gi l k) p=false
structure PartOk {α:Type} [Inhabited α] (R:α→α→Bool) (x1 x2:Int) (l0:List α) (p:α) (mid:Int) (l:List α):Prop where
 b:x1≤mid∧mid<x2
 s:Sw x1 x2 l0 l
 pv:gi l mid=p
 lo:∀ k,x1≤k→k<mid→R (gi l k) p=true
 hi:∀ k,mid<k→k<x2→R (gi l k) p=false
section
variable {α:Type} [Inhabited α] {R:α→α→Bool} {x1 x2 i j:Int} {l0 l:List α} {p:α}
theorem PI.up (h:PI R x1 x2 l0 p i j l) (hij:i≤j) (hr:R (gi l i) (gi l x1)=true):PI R x1 x2 l0 p (i+1) j l :=
 ⟨by have:=h.b;omega,h.s,h.pv,fun k h1 h2=>by
  by_cases e:k=i
  ·subst e;rw [h.pv] at hr;exact hr
  ·exact h.lo k h1 om,h.hi⟩
theorem PI.swap (h:PI R x1 x2 l0 p i j l) (h0:0≤x1∧x2≤l0.length) (hij:i≤j) (hi:R (gi l i) (gi l x1)=false) (hj:R (gi l j) (gi l x1)=true):PI R x1 x2 l0 p (i+1) (j - 1) (swp l i j):=by
 have hb:=h.b
 have hl:=h.s.len
 have hne:i≠j:=fun e=>by subst e;rw [hi] at hj;cases hj
 have hg:=fun (k:Int) (hk:0≤k)=>ziv l i j k om om hk
 rw [h.pv] at hi hj
 refine ⟨om,.step h.s _ _ om om,?_,fun k h1 h2=>?_,fun k h1 h2=>?_⟩
 ·rw [hg _ om,if_neg om,if_neg om,h.pv]
 ·rw [hg _ om,if_neg om]
  split
  ·exact hj
  ·exact h.lo k h1 om
 ·rw [hg _ om]
  split
  ·exact hi
  ·rw [if_neg om]
   exact h.hi k om h2
theorem PI.done (h:PI R x1 x2 l0 p i j l) (h0:0≤x1∧x2≤l0.length) (hij:j<i):PartOk R x1 x2 l0 p j (swp l j x1):=by
 have hb:=h.b
 have hl:=h.s.len
 have hg:=fun (k:Int) (hk:0≤k)=>ziv l j x1 k om om hk
 refine ⟨om,.step h.s _ _ om om,?_,fun k h1 h2=>?_,fun k h1 h2=>?_⟩
 ·rw [hg _ om]
  split
  ·rename_i e;rw [e];exact h.pv
  ·rw [if_pos rfl];exact h.pv
 ·rw [hg _ om]
  split
  ·exact h.lo j om hij
  ·rw [if_neg om]
   exact h.lo k om om
 ·rw [hg _ om,if_neg om,if_neg om]
  exact h.hi k h1 h2
theorem PI.start (l:List α) {x3:Int} (h0:0≤x1∧x2≤l.length) (h3:x1≤x3∧x3<x2):PI R x1 x2 l (gi l x3) (x1+1) (x2 - 1) (swp l x1 x3) :=
 ⟨om,.step .refl _ _ om om,by
  rw [ziv l x1 x3 x1 om om om]
  split
  ·rename_i e;rw [e]
  ·rw [if_pos rfl],fun k h1 h2=>absurd h1 om,fun k h1 h2=>absurd h1 om⟩
end
theorem w1 {p:Prop} [Decidable p]:decide p=true↔p:=by simp
theorem w2 {p:Prop} [Decidable p]:decide p=false↔¬ p:=by simp
theorem w3 {a b:Bool}:(a&&b)=true↔a=true∧b=true:=by simp
theorem w4 {a b:Bool}:(a&&b)=false↔a=false∨b=false:=Bool.and_eq_false_iff
section
variable {α:Type} [Inhabited α] {R:α→α→Bool}
structure InsI (R:α→α→Bool) (a i j:Int) (l:List α):Prop where
 b:a≤j∧j≤i
 pr:∀ p q,a≤p→p<q→q≤i→p≠j→q≠j→R (gi l q) (gi l p)=false
 up:∀ q,j<q→q≤i→R (gi l q) (gi l j)=false
theorem InsI.start {a i:Int} {l:List α} (h:a≤i) (hs:Srt R a i l):InsI R a i i l :=
 ⟨om,fun p q h1 h2 h3 _ h5=>hs p q h1 h2 om,fun q h1 h2=>absurd h1 om⟩
theorem InsI.step (hR:SWO R) {a i j:Int} {l:List α} (h:InsI R a i j l) (ha:0≤a) (hl:i<l.length) (hj:a<j) (hr:R (gi l j) (gi l (j - 1))=true):InsI R a i (j - 1) (swp l j (j - 1)):=by
 have hb:=h.b
 have hg:=fun (k:Int) (hk:0≤k)=>ziv l j (j - 1) k om om hk
 refine ⟨om,fun p q h1 h2 h3 h4 h5=>?_,fun q h1 h2=>?_⟩
 ·rw [hg p om,hg q om,if_neg h4,if_neg h5]
  split
  ·rw [if_neg om]
   exact h.pr p (j - 1) h1 om om om om
  ·split
   ·exact h.pr (j - 1) q om om h3 om om
   ·exact h.pr p q h1 h2 h3 om om
 ·rw [hg q om,hg (j - 1) om,if_neg om,if_pos rfl]
  split
  ·exact hR.asym _ _ hr
  ·exact h.up q om h2
theorem InsI.done (hR:SWO R) {a i j:Int} {l:List α} (h:InsI R a i j l) (hr:a<j→R (gi l j) (gi l (j - 1))=false):Srt R a (i+1) l:=by
 have hb:=h.b
 intro p q h1 h2 h3
 by_cases e1:p=j
 ·subst e1;exact h.up q h2 om
 ·by_cases e2:q=j
  ·subst e2
   by_cases e3:p=q - 1
   ·subst e3;exact hr om
   ·exact hR.ntr _ _ _ (hr om) (h.pr p (q - 1) h1 om om e1 om)
  ·exact h.pr p q h1 h2 om e1 e2
def Heap (R:α→α→Bool) (f k n:Int) (l:List α):Prop:=∀ r c,k≤r→(c=2 * r+1∨c=2 * r+2)→c<n→R (gi l (f+r)) (gi l (f+c))=false
structure HeapI (R:α→α→Bool) (f k n r:Int) (l:List α):Prop where
 b:k≤r
 ot:∀ q c,k≤q→q≠r→(c=2 * q+1∨c=2 * q+2)→c<n→R (gi l (f+q)) (gi l (f+c))=false
 gr:∀ q c,k≤q→(r=2 * q+1∨r=2 * q+2)→(c=2 * r+1∨c=2 * r+2)→c<n→R (gi l (f+q)) (gi l (f+c))=false
theorem HeapI.start {f k n:Int} {l:List α} (hk:0≤k) (h:Heap R f (k+1) n l):HeapI R f k n k l :=
 ⟨om,fun q c h1 h2 h3 h4=>h q c om h3 h4,fun q c h1 h2=>absurd h1 om⟩
theorem HeapI.done {f k n r:Int} {l:List α} (h:HeapI R f k n r l) (hr:∀ c,(c=2 * r+1∨c=2 * r+2)→c<n→R (gi l (f+r)) (gi l (f+c))=false):Heap R f k n l:=by
 intro q c h1 h2 h3
 by_cases e:q=r
 ·subst e;exact hr c h2 h3
 ·exact h.ot q c h1 e h2 h3
theorem HeapI.step (hR : SWO R) {f k n r c : Int} {l : List α} (h : HeapI R f k n r l) (h0 : 0 ≤ f ∧ 0 ≤ k ∧ f + n ≤ l.length) (hc : c = 2 * r + 1 ∨ c = 2 * r + 2) (hcn : c < n) (hr : R (gi l (f + r)) (gi l (f + c)) = true)
    (ho:∀ d,(d=2 * r+1∨d=2 * r+2)→d<n→R (gi l (f+c)) (gi l (f+d))=false):HeapI R f k n c (swp l (f+r) (f+c)):=by
 have hb:=h.b
 have hg:=fun (k:Int) (hk:0≤k)=>ziv l (f+r) (f+c) k om om hk
 refine ⟨om,fun q d h1 h2 h3 h4=>?_,fun q d h1 h2 h3 h4=>?_⟩
 ·rw [hg (f+q) om,hg (f+d) om,if_neg om]
  by_cases e:q=r
  ·subst e
   rw [if_pos rfl]
   by_cases e2:d=c
   ·subst e2;rw [if_pos rfl];exact hR.asym _ _ hr
   ·rw [if_neg om,if_neg om]
    exact ho d h3 h4
  ·rw [if_neg om]
   by_cases e2:d=r
   ·subst e2
    rw [if_neg om,if_pos rfl]
    exact h.gr q c h1 h3 hc hcn
   ·rw [if_neg om,if_neg om]
    exact h.ot q d h1 e h3 h4
 ·have e:q=r:=by omega
  subst e
  rw [hg (f+q) om,hg (f+d) om,if_neg om,if_pos rfl,if_neg om,if_neg om]
  exact h.ot c d om om h3 h4
end

theorem zeb {α:Type} (l:List α) (d:α) {i:Nat} (hi:i<l.length):l.take (i+1)=l.take i++[l.getD i d]:=by
 rw [List.take_add_one,yn,yq hi];rfl
def UDiff (a b:yb):Prop:=a.man=b.man→¬ a.woman=b.woman
theorem zzh {α : Type} [Inhabited α] {R : α → α → Prop} : ∀ {l : List α}, (∀ k : Nat, k < l.length → ∀ j, j < k → R (l.getD j w9) (l.getD k w9)) → l.Pairwise R
  | [],_=>.nil
  | a :: l,h=>by
    refine YJ.2 ⟨fun b hb=>?_,zzh fun k hk j hj=>?_⟩
    · obtain ⟨k,hk,e⟩:=ze7 (d:=w9) hb
      have:=h (k+1) (by rw [yv];omega) 0 om
      rw [Yk,YA,e] at this
      exact this
    · have:=h (k+1) (by rw [yv];omega) (j+1) om
      rwa [YA,YA] at this
theorem ziw {α : Type} [Inhabited α] {R : α → α → Prop} : ∀ {l : List α}, l.Pairwise R → ∀ k : Nat, k < l.length → ∀ j, j < k → R (l.getD j w9) (l.getD k w9)
  | [],_,k,hk,_,_=>absurd hk (Nat.not_lt_zero _)
  | a :: l,h,k,hk,j,hj=>by
    obtain ⟨h1,h2⟩:=YJ.1 h
    obtain ⟨k,rfl⟩:∃ m,k=m+1:=⟨k - 1,om⟩
    rw [yv] at hk
    rw [YA]
    cases j with
    | zero=>rw [Yk];exact h1 _ (zdg om)
    | succ j=>rw [YA];exact ziw h2 k om j om
theorem z5e {P:List ya} {U V:List yb} (h:za9 ⟨P,U⟩=true) (hs:V.Sublist U):za9 ⟨P,V⟩=true:=by
 obtain ⟨h1,h2,h3,h4⟩:=(zfv _).1 h
 have hl:=hs.length_le
 dsimp only at h1
 refine (zfv _).2 ⟨⟨h1.1,by dsimp only;omega⟩,fun k hk=>?_,h3,fun k hk=>?_⟩
 ·have:=h2 k hk
  exact ⟨this.name,this.sex,this.born,this.died,this.uniq,this.fa,this.mo⟩
 ·have hm:=hs.subset (zdg (d:=(w9:yb)) hk)
  obtain ⟨j,hj,e⟩:=ze7 (d:=w9) hm
  have hu:=h4 j hj
  have hp:U.Pairwise UDiff:=zzh fun k hk j hj=>(h4 k hk).uniq j hj
  have hd:=ziw (hp.sublist hs) k hk
  have e2:(yc.mk P U).unions.getD j w9=(yc.mk P V).unions.getD k w9:=e
  obtain ⟨u1,u2,u3,u4,u5,u6,u7,u8,_⟩:=hu
  rw [e2] at u1 u2 u3 u4 u5 u6 u7 u8
  exact ⟨u1,u2,u3,u4,u5,u6,u7,u8,hd⟩
def AuI (x:yc) (i:Nat) (u:List yb):Prop:=u.Sublist (x.unions.take i)
theorem AuI.snoc {x:yc} {i:Nat} {u:List yb} (h:AuI x i u) (hi:i<x.unions.length):AuI x (i+1) (u++[x.unions.getD i w9]):=by
 unfold AuI
 rw [zeb _ w9 hi]
 exact List.Sublist.append h (List.Sublist.refl _)
theorem AuI.skip {x:yc} {i:Nat} {u:List yb} (h:AuI x i u) (hi:i<x.unions.length):AuI x (i+1) u:=by
 unfold AuI
 rw [zeb _ w9 hi]
 exact List.Sublist.trans h (List.sublist_append_left _ _)
theorem AuI.fam {x:yc} {i:Nat} {u:List yb} (h:AuI x i u) (hf:za9 x=true):za9 ⟨x.people,u⟩=true:=z5e (U:=x.unions) hf (List.Sublist.trans h (List.take_sublist _ _))
def kLt (keys:List Int) (a b:Int):Prop:=keys.getD a.toNat w9<keys.getD b.toNat w9∨(keys.getD a.toNat w9=keys.getD b.toNat w9∧a<b)
def upto (n:Nat):List Int:=(List.range n).map fun j=>((j:Nat):Int)
theorem mem_upto {n:Nat} {a:Int}:a∈upto n↔0≤a∧a<n:=by
 unfold upto
 rw [List.mem_map]
 constructor
 ·rintro ⟨j,hj,rfl⟩;have:=yU.1 hj;omega
 ·intro h;exact ⟨a.toNat,yU.2 om,om⟩
theorem zef (n:Nat):(upto n).length=n:=by simp [upto]
theorem zlt (n:Nat):(upto n).Nodup:=by
 unfold upto
 rw [YO,List.pairwise_map]
 exact (YO.1 List.nodup_range).imp fun h e=>h om
theorem zst (n:Nat):upto (n+1)=upto n++[((n:Nat):Int)]:=by simp [upto,List.range_succ]
structure OrdI (keys:List Int) (i:Nat) (v:List Int):Prop where
 perm:v.Perm (upto i)
 pw:v.Pairwise (kLt keys)
theorem OrdI.len {keys:List Int} {i:Nat} {v:List Int} (h:OrdI keys i v):v.length=i:=by rw [h.perm.length_eq,zef]
theorem OrdI.insert {keys : List Int} {i : Nat} {v : List Int} (h : OrdI keys i v) {c : Nat} (hc : c ≤ v.length) (h1 : ∀ m : Nat, m < c → ¬ keys.getD i w9 < keys.getD (v.getD m w9).toNat w9)
    (h2:c<v.length→keys.getD i w9<keys.getD (v.getD c w9).toNat w9):OrdI keys (i+1) (v.take c++((i:Nat):Int) :: v.drop c):=by
 have hpw:=h.pw
 have hsp:(v.take c++v.drop c).Pairwise (kLt keys):=by rw [Y6];exact hpw
 obtain ⟨p1,p2,p3⟩:=wR.1 hsp
 have hi:∀ a∈v,a<i:=fun a ha=>(mem_upto.1 (h.perm.mem_iff.1 ha)).2
 refine ⟨?_,wR.2 ⟨p1,YJ.2 ⟨fun b hb=>?_,p2⟩,fun a ha b hb=>?_⟩⟩
 ·refine List.Perm.trans List.perm_middle ?_
  rw [Y6,zst]
  exact List.Perm.trans (List.Perm.cons _ h.perm) (List.perm_append_comm (l₁:=[((i:Nat):Int)]))
 ·obtain ⟨m,hm,e⟩:=ze7 (d:=w9) hb
  rw [List.length_drop] at hm
  have e2:b=v.getD (c+m) w9:=by
   rw [← e,yn,yn,List.getElem?_drop]
  have hk:=h2 om
  left
  rw [yQ,e2]
  rcases Nat.eq_zero_or_pos m with g | g
  ·subst g;exact hk
  ·have:=ziw hpw (c+m) om c om
   rcases this with q | q<;>omega
 ·rcases List.mem_cons.1 hb with e | hb'
  ·subst e
   obtain ⟨m,hm,e⟩:=ze7 (d:=w9) ha
   rw [List.length_take] at hm
   have e2:a=v.getD m w9:=by
    rw [← e,yn,yn,List.getElem?_take,if_pos om]
   have hk:=h1 m om
   have ha':=hi a (List.mem_of_mem_take ha)
   unfold kLt
   rw [yQ,e2]
   rw [e2] at ha'
   omega
  ·exact p3 a ha b hb'
structure LI (i:Nat) (v:List Int):Prop where
 len:v.length=i
 rng:∀ c∈v,0≤c∧c<i
structure LJ (i j:Nat) (w:List Int) (d:Bool):Prop where
 len:w.length=j+(bif d then 1 else 0)
 rng:∀ c∈w,0≤c∧c≤i
theorem LI.nil:LI 0 []:=⟨rfl,fun c hc=>absurd hc Yd⟩
theorem LJ.nil (i:Nat):LJ i 0 [] false:=⟨rfl,fun c hc=>absurd hc Yd⟩
theorem LI.at {i:Nat} {v:List Int} (h:LI i v) {j:Nat} (hj:j<v.length):0≤v.getD j w9∧v.getD j w9<i:=h.rng _ (zdg hj)
theorem LJ.one {i j:Nat} {w v:List Int} {d:Bool} (h:LJ i j w d) (hv:LI i v) {m:Nat} (hm:m<v.length):LJ i (j+1) (w++[v.getD m w9]) d:=by
 refine ⟨by rw [yo,h.len,yE];omega,fun a ha=>?_⟩
 rcases List.mem_append.1 ha with ha | ha
 ·exact h.rng a ha
 ·rw [List.mem_singleton.1 ha];have:=hv.at hm;omega
theorem LJ.done {i:Nat} {w v:List Int} {d:Bool} (h:LJ i v.length w d) (hd:d=true) (hv:LI i v):LI (i+1) w:=by
 subst hd
 have hl:=h.len
 have h2:=hv.len
 simp only [cond_true] at hl
 exact ⟨om,fun a ha=>by have:=h.rng a ha;omega⟩
theorem LJ.bd {i j:Nat} {w:List Int} {d:Bool} (h:LJ i j w d):w.length≤j+1:=by
 have:=h.len
 cases d<;>simp only [cond_true,cond_false] at this<;>omega
def zb7 (x0:List Int):(List Int):=loopN (fun i1 (v1:(List Int)) nx1=>loopN (fun i2 (v2:(List Int)×Bool) next=>bif ((!v2.2)&&(decide ((x0.getD i1 w9)<(x0.getD ((v1.getD i2 w9).toNat) w9)))) then (next (((v2.1++[((i1:Nat):Int)])++[(v1.getD i2 w9)]),true)) else (next ((v2.1++[(v1.getD i2 w9)]),v2.2))) (fun (v2:(List Int)×Bool)=>bif (!v2.2) then (nx1 (v2.1++[((i1:Nat):Int)])) else (nx1 v2.1)) v1.length 0 (([]:List Int),false)) (fun (v1:(List Int))=>v1) x0.length 0 ([]:List Int)
end Go.Proofs.YtlinnkjieghmhaaGreatDoor
