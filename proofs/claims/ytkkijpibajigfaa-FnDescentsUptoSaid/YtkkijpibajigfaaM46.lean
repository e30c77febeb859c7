import Derived.Test.YtkkijpibajigfaaV49
set_option maxHeartbeats 4000000
set_option linter.unusedSimpArgs false
set_option linter.unusedVariables false
namespace Go.Proofs.Ytkkijpibajigfaa
open Go Go.Lite Go.Proofs
theorem jn_to {S α:Type} {f:(S→α)→α} {k:S→α} (J:S→Prop) (Q:α→Prop) (h1:∀ K:S→α,(∀ v,J v→Q (K v))→Q (f K)) (h2:∀ v,J v→Q (k v)):Q (jn f k):=h1 k h2
theorem l1Wed_ok (c:l01Cur) {x:Family} (hf:specIsFamily x=true):specIsFamily (l1Wed c x).1=true:=by
 unfold l1Wed
 refine jn_to (fun _=>True) (fun (r:Family×Int×Int)=>specIsFamily r.1=true) (fun K hK=>hK _ trivial) fun j1 _=>?_
 refine loopW_to (fun v=>specIsFamily ⟨v.2.1,v.2.2.1⟩=true) (fun v=>Int.toNat v.1) (fun (r:Family×Int×Int)=>specIsFamily r.1=true) (fun v next hv hn=>?_) _ _ (Nat.lt_succ_self _) (by cases x;exact hf)
 refine cond_both (p:=fun (r:Family×Int×Int)=>specIsFamily r.1=true) (fun c1=>?_) (fun _=>hv)
 have c1:=of_decide_eq_true c1
 refine jn_to (fun _=>True) (fun (r:Family×Int×Int)=>specIsFamily r.1=true) (fun K hK=>hK _ trivial) fun j2 _=>?_
 refine jn_to (fun _=>True) (fun (r:Family×Int×Int)=>specIsFamily r.1=true) (fun K hK=>hK _ trivial) fun j3 _=>?_
 refine cond_both (p:=fun (r:Family×Int×Int)=>specIsFamily r.1=true) (fun _=>hn _ hv (by dsimp only;omega)) (fun _=>?_)
 refine jn_to (fun _=>True) (fun (r:Family×Int×Int)=>specIsFamily r.1=true) (fun K hK=>hK _ trivial) fun j4 _=>?_
 refine cond_both (p:=fun (r:Family×Int×Int)=>specIsFamily r.1=true) (fun _=>?_) (fun _=>?_)
 ·exact cond_both (p:=fun (r:Family×Int×Int)=>specIsFamily r.1=true) (fun c2=>hn _ c2 (by dsimp only;omega)) (fun _=>hn _ hv (by dsimp only;omega))
 ·exact cond_both (p:=fun (r:Family×Int×Int)=>specIsFamily r.1=true) (fun c2=>hn _ c2 (by dsimp only;omega)) (fun _=>hn _ hv (by dsimp only;omega))
theorem l1Family_ok {x0:l01Cur} (hc:CurOk x0) {x1:Int} (hm:0≤x1∧x1≤40):specIsFamily (l1Family x0 x1).1=true:=by
 unfold l1Family
 refine jn_to (fun j=>(1≤j.1∧j.1≤25)∧CurOk ⟨x0.b,j.2.1,j.2.2⟩) (fun (r:Family×Int×Int)=>specIsFamily r.1=true) (fun K hK=>hK _ ⟨mem4 (l01Int_ok hc (by simp)).1,(l01Int_ok hc (by simp)).2⟩) fun j1 hJ1=>?_
 refine jn_to (fun j=>(1≤j.1∧j.1≤9)∧CurOk ⟨x0.b,j.2.1,j.2.2⟩) (fun (r:Family×Int×Int)=>specIsFamily r.1=true) (fun K hK=>hK _ ⟨mem3b (l01Int_ok hJ1.2 (by simp)).1,(l01Int_ok hJ1.2 (by simp)).2⟩) fun j2 hJ2=>?_
 refine jn_to (fun j=>CurOk ⟨x0.b,j.1,j.2.1⟩∧Mk j.2.2.2.1∧j.2.2.2.2=[]) (fun (r:Family×Int×Int)=>specIsFamily r.1=true) (fun K3 hK3=>?_) fun j3 hJ3=>?_
 ·refine jn_to (fun j=>(0≤j.1∧j.1≤40)∧CurOk ⟨x0.b,j.2.1,j.2.2⟩) (fun (r:Family×Int×Int)=>specIsFamily r.1=true) (fun K hK=>?_) fun j4 hJ4=>?_
  ·have h9:=l01Below_ok hJ2.2 (n:=x1+1) (by omega)
   exact hK _ ⟨⟨h9.1.1,by have:=h9.1.2.2 (by omega);dsimp only;omega⟩,h9.2⟩
  refine loopW_to (fun v=>((v.2.2.1.length:Int)+v.1≤40∧Mk v.2.2.1∧MkB v.2.2.1)∧v.2.2.2.1=[]∧CurOk ⟨x0.b,v.2.2.2.2.1,v.2.2.2.2.2⟩) (fun v=>Int.toNat v.1) (fun (r:Family×Int×Int)=>specIsFamily r.1=true) (fun v1 next hI1 hn=>?_) _ _ (Nat.lt_succ_self _) ⟨⟨by simp only [List.length_nil];omega,Mk.nil,MkB.nil⟩,rfl,hJ4.2⟩
  refine cond_both (p:=fun (r:Family×Int×Int)=>specIsFamily r.1=true) (fun c1=>?_) (fun _=>hK3 _ ⟨hI1.2.2,hI1.1.2.1,hI1.2.1⟩)
  have c1:=of_decide_eq_true c1
  have hb2:=l01Below_ok hI1.2.2 (n:=2) (by omega)
  refine jn_to (fun j=>CurOk ⟨x0.b,j.1,j.2.1⟩∧PaDp v1.2.2.1 j.2.2 1) (fun (r:Family×Int×Int)=>specIsFamily r.1=true) (fun K5 hK5=>?_) fun j5 hJ5=>?_
  ·refine jn_to (fun j=>CurOk ⟨x0.b,j.2.1,j.2.2⟩) (fun (r:Family×Int×Int)=>specIsFamily r.1=true) (fun K hK=>hK _ (l01Once_ok hb2.2 (by have:=hJ2.1;omega))) fun j6 hJ6=>?_
   exact cond_both (p:=fun (r:Family×Int×Int)=>specIsFamily r.1=true) (fun _=>hK5 _ (some_ok hJ6 hI1.1.2.1 _ 1)) (fun _=>hK5 _ ⟨hJ6,none_ok _ _⟩)
  refine jn_to (fun j=>CurOk ⟨x0.b,j.1,j.2.1⟩∧PaDp v1.2.2.1 j.2.2 2) (fun (r:Family×Int×Int)=>specIsFamily r.1=true) (fun K7 hK7=>?_) fun j7 hJ7=>?_
  ·refine jn_to (fun j=>CurOk ⟨x0.b,j.2.1,j.2.2⟩) (fun (r:Family×Int×Int)=>specIsFamily r.1=true) (fun K hK=>hK _ (l01Once_ok hJ5.1 (by have:=hJ2.1;omega))) fun j8 hJ8=>?_
   exact cond_both (p:=fun (r:Family×Int×Int)=>specIsFamily r.1=true) (fun _=>hK7 _ (some_ok hJ8 hI1.1.2.1 _ 2)) (fun _=>hK7 _ ⟨hJ8,none_ok _ _⟩)
  refine jn_to (fun j=>CurOk ⟨x0.b,j.1,j.2.1⟩∧0≤j.2.2∧j.2.2≤11) (fun (r:Family×Int×Int)=>specIsFamily r.1=true) (fun K hK=>?_) fun j9 hJ9=>?_
  ·have h9:=l01Below_ok hJ7.1 (n:=12) (by omega)
   exact hK _ ⟨h9.2,h9.1.1,by have:=h9.1.2.2 (by omega);dsimp only;omega⟩
  refine loopN_to (fun i v=>CurOk ⟨x0.b,v.2.1,v.2.2⟩∧Born v1.2.2.1 (l1Parents (Family.mk [(Person.mk (l1Called ((v1.2.2.1.length:Nat):Int)) (1+((l01Below (l01Cur.mk x0.b v1.2.2.2.2.1 v1.2.2.2.2.2) 2).1)) j5.2.2 j7.2.2 j9.2.2 (-1))] ([]:List Union)) 0) i v.1) (fun (r:Family×Int×Int)=>specIsFamily r.1=true) ⟨hJ9.1,born0 hJ9.2⟩ (fun i2 v2 next2 hi hI2 hn2=>?_) fun v2 hI2=>?_
  ·have h7:=l01Below_ok hI2.1 (n:=6) (by omega)
   exact hn2 _ ⟨h7.2,born_step hI2.2 hi hJ1.1 ⟨h7.1.1,h7.1.2.2 (by omega)⟩⟩
  have h8:=hI1.1.1
  have h5:=hb2.1.2.2 (by omega)
  have h7:=hI1.1.2.1.grow hI1.1.2.2 (by omega) (s:=(1+((l01Below (l01Cur.mk x0.b v1.2.2.2.2.1 v1.2.2.2.2.2) 2).1))) (by omega) hJ5.2.1 hJ7.2.1 hJ5.2.2 hJ7.2.2 hI2.2.1 hI2.2.2.1 (born_all hI2.2)
  exact hn _ ⟨⟨by simp only [List.length_append,List.length_singleton];omega,h7.1,h7.2⟩,hI1.2.1,hI2.1⟩ (by dsimp only;omega)
 refine loopN_to (fun i v=>CurOk ⟨x0.b,v.2.1,v.2.2⟩∧Dying j3.2.2.2.1 v.1) (fun (r:Family×Int×Int)=>specIsFamily r.1=true) ⟨hJ3.1,Dying.refl hJ3.2.1⟩ (fun i3 v3 next hi hI3 hn=>?_) fun v3 hI3=>?_
 ·refine jn_to (fun j=>CurOk ⟨x0.b,j.2.1,j.2.2⟩) (fun (r:Family×Int×Int)=>specIsFamily r.1=true) (fun K hK=>hK _ (l01Once_ok hI3.1 (by omega))) fun j10 hJ10=>?_
  refine cond_both (p:=fun (r:Family×Int×Int)=>specIsFamily r.1=true) (fun _=>?_) (fun _=>hn _ ⟨hJ10,hI3.2⟩)
  refine loopN_to (fun i t=>Last v3.1 (l1Children (Family.mk v3.1 j3.2.2.2.2) ((i3:Nat):Int)) i3 i t) (fun (r:Family×Int×Int)=>specIsFamily r.1=true) (last0 hJ3.2.1 hI3.2 hi) (fun i4 v4 next4 hi4 hI4 hn4=>?_) fun v4 hI4=>?_
  ·exact hn4 _ (last_step hI4 (dy_born hJ3.2.1 hI3.2 (by have h9:=l1Children_rng hi4;dsimp only at h9;omega)).2)
  ·exact hn _ ⟨(l01Int_ok hJ10 (by simp)).2,die_ok hJ3.2.1 hI3.2 hi hI4 (mem5b (l01Int_ok hJ10 (by simp)).1)⟩
 ·refine jn_to (fun j=>specIsFamily ⟨j.1,j.2.1⟩=true) (fun (r:Family×Int×Int)=>specIsFamily r.1=true) (fun K hK=>hK _ ?_) fun j11 hJ11=>hJ11
  have e:∀ z:Family,specIsFamily z=true→specIsFamily ⟨z.people,z.unions⟩=true:=fun z h=>by cases z;exact h
  have h9:=l1Wed_ok (l01Cur.mk x0.b v3.2.1 v3.2.2) (x:=Family.mk v3.1 j3.2.2.2.2) (by rw [hJ3.2.2];exact hI3.2.valid hJ3.2.1)
  revert h9
  generalize l1Wed (l01Cur.mk x0.b v3.2.1 v3.2.2) (Family.mk v3.1 j3.2.2.2.2)=z
  intro h9
  exact e z.1 h9
theorem l8Close_ok {x0:l01Cur} (hc:CurOk x0):specIsFamily (l8Close x0).1=true:=by
 unfold l8Close
 refine jn_to (fun j=>(2≤j.1∧j.1≤3)∧CurOk ⟨x0.b,j.2.1,j.2.2⟩) (fun (r:Family×Int×Int)=>specIsFamily r.1=true) (fun K hK=>?_) fun j1 hJ1=>?_
 ·have h9:=l01Below_ok hc (n:=2) (by omega)
  have h8:=h9.1.2.2 (by omega)
  exact hK _ ⟨by dsimp only;omega,h9.2⟩
 refine jn_to (fun j=>(1≤j.1∧j.1≤10)∧CurOk ⟨x0.b,j.2.1,j.2.2⟩) (fun (r:Family×Int×Int)=>specIsFamily r.1=true) (fun K hK=>?_) fun j2 hJ2=>?_
 ·have h9:=l01Below_ok hJ1.2 (n:=10) (by omega)
  have h8:=h9.1.2.2 (by omega)
  exact hK _ ⟨by dsimp only;omega,h9.2⟩
 refine loopW_to (fun v=>CurOk ⟨x0.b,v.2.2.1,v.2.2.2⟩∧Gen j1.1 v.1 v.2.1) (fun v=>Int.toNat v.1) (fun (r:Family×Int×Int)=>specIsFamily r.1=true) (fun v1 next hI1 hn=>?_) _ _ (Nat.lt_succ_self _) ⟨hJ2.2,Gen.nil (by have h9:=hJ2.1;omega)⟩
 refine cond_both (p:=fun (r:Family×Int×Int)=>specIsFamily r.1=true) (fun c1=>?_) (fun _=>(Dying.refl hI1.2.ok).valid hI1.2.ok)
 simp only [Bool.and_eq_true,decide_eq_true_eq] at c1
 have h4:=hJ1.1
 refine loopN_to (fun i v=>CurOk ⟨x0.b,v.2.1,v.2.2⟩∧GenI j1.1 v1.1 v1.2.1 i v.1) (fun (r:Family×Int×Int)=>specIsFamily r.1=true) ⟨hI1.1,hI1.2.start⟩ (fun i2 v2 next2 hi hI2 hn2=>?_) fun v2 hI2=>?_
 ·refine jn_to (fun j=>CurOk ⟨x0.b,j.1,j.2.1⟩∧(j.2.2=-1 ∨ 0<v1.2.1.length∧j.2.2=(v1.2.1.length:Int) - j1.1)) (fun (r:Family×Int×Int)=>specIsFamily r.1=true) (fun K3 hK3=>?_) fun j3 hJ3=>?_
  ·refine jn_to (fun j=>CurOk ⟨x0.b,j.2.1,j.2.2⟩∧(j.1=true→0<v1.2.1.length)) (fun (r:Family×Int×Int)=>specIsFamily r.1=true) (fun K hK=>?_) fun j4 hJ4=>?_
   ·exact cond_both (p:=fun (r:Family×Int×Int)=>specIsFamily r.1=true) (fun _=>hK _ ⟨l01Once_ok hI2.1 (by omega),fun h9=>by simp only [Bool.and_eq_true,decide_eq_true_eq] at h9;omega⟩) (fun _=>hK _ ⟨hI2.1,fun h9=>by simp only [Bool.and_eq_true,decide_eq_true_eq] at h9;omega⟩)
   ·exact cond_both (p:=fun (r:Family×Int×Int)=>specIsFamily r.1=true) (fun c=>hK3 _ ⟨hJ4.1,.inr ⟨hJ4.2 c,rfl⟩⟩) (fun _=>hK3 _ ⟨hJ4.1,.inl rfl⟩)
  ·refine jn_to (fun j=>CurOk ⟨x0.b,j.2.1,j.2.2⟩∧(j.1=true→0<v1.2.1.length)) (fun (r:Family×Int×Int)=>specIsFamily r.1=true) (fun K hK=>?_) fun j5 hJ5=>?_
   ·exact cond_both (p:=fun (r:Family×Int×Int)=>specIsFamily r.1=true) (fun _=>hK _ ⟨l01Once_ok hJ3.1 (by omega),fun h9=>by simp only [Bool.and_eq_true,decide_eq_true_eq] at h9;omega⟩) (fun _=>hK _ ⟨hJ3.1,fun h9=>by simp only [Bool.and_eq_true,decide_eq_true_eq] at h9;omega⟩)
   ·exact cond_both (p:=fun (r:Family×Int×Int)=>specIsFamily r.1=true) (fun c=>hn2 _ ⟨hJ5.1,hI2.2.step hI1.2 (by omega) h4 (by omega) (by omega) hJ3.2 (.inr ⟨hJ5.2 c,rfl⟩)⟩) (fun _=>hn2 _ ⟨hJ5.1,hI2.2.step hI1.2 (by omega) h4 (by omega) (by omega) hJ3.2 (.inl rfl)⟩)
 ·exact hn _ ⟨hI2.1,hI2.2.done hI1.2 (by omega) h4⟩ (by dsimp only;omega)
theorem l01New_ok {b:List Int} (hb:∀ y ∈ b,0≤y∧y≤255) (hx:b.length≤1048576):CurOk (l01New b):=by
 unfold l01New
 refine loopW_to (fun v=>(0≤v.1∧v.1≤1073741823)∧0≤v.2) (fun v=>4000 - Int.toNat v.2) (fun (r:l01Cur)=>CurOk r) (fun v next hv hn=>?_) _ _ (Nat.lt_succ_self _) (by simp only;omega)
 refine cond_both (p:=fun (r:l01Cur)=>CurOk r) (fun c=>hn _ ?_ ?_) (fun _=>⟨hb,hx,⟨by simp only;omega,by simp only;omega⟩,by simp only [inR];omega⟩)
 ·exact ⟨and_small _ 1073741823 1073741823 rfl (by omega),by dsimp only;omega⟩
 ·simp only [Bool.and_eq_true,decide_eq_true_eq] at c;dsimp only;omega
end Go.Proofs.Ytkkijpibajigfaa
