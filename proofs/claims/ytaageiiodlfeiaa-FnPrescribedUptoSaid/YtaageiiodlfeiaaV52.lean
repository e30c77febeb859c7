import Derived.Test.YtaageiiodlfeiaaV49
set_option maxHeartbeats 4000000
set_option linter.unusedSimpArgs false
set_option linter.unusedVariables false
namespace Go.Proofs.Ytaageiiodlfeiaa
open Go Go.Lite Go.Proofs
theorem jn_to {S α : Type} {f : (S → α) → α} {k : S → α} (J : S → Prop) (Q : α → Prop) (h1 : ∀ K : S → α,(∀ v,J v → Q (K v)) → Q (f K)) (h2 : ∀ v,J v → Q (k v)) : Q (jn f k):=h1 k h2
theorem l1Wed_ok (c : l01Cur) {x : Family} (hf : specIsFamily x = true) : specIsFamily (l1Wed c x).1 = true := by
  unfold l1Wed
  refine jn_to (fun _=>True) (fun (r : Family × Int × Int)=>specIsFamily r.1 = true) (fun K hK=>hK _ trivial) fun j1 _=>?_
  refine loopW_to (fun v=>specIsFamily ⟨v.2.1,v.2.2.1⟩ = true) (fun v=>Int.toNat v.1) (fun (r : Family × Int × Int)=>specIsFamily r.1 = true) (fun v next hv hn=>?_) _ _ (Nat.lt_succ_self _) (by cases x;exact hf)
  refine cond_both (p:=fun (r : Family × Int × Int)=>specIsFamily r.1 = true) (fun c1=>?_) (fun _=>hv)
  have c1:=of_decide_eq_true c1
  refine jn_to (fun _=>True) (fun (r : Family × Int × Int)=>specIsFamily r.1 = true) (fun K hK=>hK _ trivial) fun j2 _=>?_
  refine jn_to (fun _=>True) (fun (r : Family × Int × Int)=>specIsFamily r.1 = true) (fun K hK=>hK _ trivial) fun j3 _=>?_
  refine cond_both (p:=fun (r : Family × Int × Int)=>specIsFamily r.1 = true) (fun _=>hn _ hv (by dsimp only;omega)) (fun _=>?_)
  refine jn_to (fun _=>True) (fun (r : Family × Int × Int)=>specIsFamily r.1 = true) (fun K hK=>hK _ trivial) fun j4 _=>?_
  refine cond_both (p:=fun (r : Family × Int × Int)=>specIsFamily r.1 = true) (fun _=>?_) (fun _=>?_)
  · exact cond_both (p:=fun (r : Family × Int × Int)=>specIsFamily r.1 = true) (fun c2=>hn _ c2 (by dsimp only;omega)) (fun _=>hn _ hv (by dsimp only;omega))
  · exact cond_both (p:=fun (r : Family × Int × Int)=>specIsFamily r.1 = true) (fun c2=>hn _ c2 (by dsimp only;omega)) (fun _=>hn _ hv (by dsimp only;omega))
theorem l1Family_ok {x0 : l01Cur} (hc : CurOk x0) {x1 : Int} (hm : 0 ≤ x1 ∧ x1 ≤ 40) : specIsFamily (l1Family x0 x1).1 = true := by
  unfold l1Family
  refine jn_to (fun j=>(1 ≤ j.1 ∧ j.1 ≤ 25) ∧ CurOk ⟨x0.b,j.2.1,j.2.2⟩) (fun (r : Family × Int × Int)=>specIsFamily r.1 = true) (fun K hK=>hK _ ⟨mem4 (l01Int_ok hc (by simp)).1,(l01Int_ok hc (by simp)).2⟩) fun j1 hJ1=>?_
  refine jn_to (fun j=>(1 ≤ j.1 ∧ j.1 ≤ 9) ∧ CurOk ⟨x0.b,j.2.1,j.2.2⟩) (fun (r : Family × Int × Int)=>specIsFamily r.1 = true) (fun K hK=>hK _ ⟨mem3b (l01Int_ok hJ1.2 (by simp)).1,(l01Int_ok hJ1.2 (by simp)).2⟩) fun j2 hJ2=>?_
  refine jn_to (fun j=>CurOk ⟨x0.b,j.1,j.2.1⟩ ∧ Mk j.2.2.2.1 ∧ j.2.2.2.2 = []) (fun (r : Family × Int × Int)=>specIsFamily r.1 = true) (fun K3 hK3=>?_) fun j3 hJ3=>?_
  · refine jn_to (fun j=>(0 ≤ j.1 ∧ j.1 ≤ 40) ∧ CurOk ⟨x0.b,j.2.1,j.2.2⟩) (fun (r : Family × Int × Int)=>specIsFamily r.1 = true) (fun K hK=>?_) fun j4 hJ4=>?_
    · have h9:=l01Below_ok hJ2.2 (n:=x1 + 1) (by omega)
      exact hK _ ⟨⟨h9.1.1,by have:=h9.1.2.2 (by omega);dsimp only;omega⟩,h9.2⟩
    refine loopW_to (fun v=>((v.2.2.1.length : Int) + v.1 ≤ 40 ∧ Mk v.2.2.1 ∧ MkB v.2.2.1) ∧ v.2.2.2.1 = [] ∧ CurOk ⟨x0.b,v.2.2.2.2.1,v.2.2.2.2.2⟩) (fun v=>Int.toNat v.1) (fun (r : Family × Int × Int)=>specIsFamily r.1 = true) (fun v1 next hI1 hn=>?_) _ _ (Nat.lt_succ_self _) ⟨⟨by simp only [List.length_nil];omega,Mk.nil,MkB.nil⟩,rfl,hJ4.2⟩
    refine cond_both (p:=fun (r : Family × Int × Int)=>specIsFamily r.1 = true) (fun c1=>?_) (fun _=>hK3 _ ⟨hI1.2.2,hI1.1.2.1,hI1.2.1⟩)
    have c1:=of_decide_eq_true c1
    have hb2:=l01Below_ok hI1.2.2 (n:=2) (by omega)
    refine jn_to (fun j=>CurOk ⟨x0.b,j.1,j.2.1⟩ ∧ PaDp v1.2.2.1 j.2.2 1) (fun (r : Family × Int × Int)=>specIsFamily r.1 = true) (fun K5 hK5=>?_) fun j5 hJ5=>?_
    · refine jn_to (fun j=>CurOk ⟨x0.b,j.2.1,j.2.2⟩) (fun (r : Family × Int × Int)=>specIsFamily r.1 = true) (fun K hK=>hK _ (l01Once_ok hb2.2 (by have:=hJ2.1;omega))) fun j6 hJ6=>?_
      exact cond_both (p:=fun (r : Family × Int × Int)=>specIsFamily r.1 = true) (fun _=>hK5 _ (some_ok hJ6 hI1.1.2.1 _ 1)) (fun _=>hK5 _ ⟨hJ6,none_ok _ _⟩)
    refine jn_to (fun j=>CurOk ⟨x0.b,j.1,j.2.1⟩ ∧ PaDp v1.2.2.1 j.2.2 2) (fun (r : Family × Int × Int)=>specIsFamily r.1 = true) (fun K7 hK7=>?_) fun j7 hJ7=>?_
    · refine jn_to (fun j=>CurOk ⟨x0.b,j.2.1,j.2.2⟩) (fun (r : Family × Int × Int)=>specIsFamily r.1 = true) (fun K hK=>hK _ (l01Once_ok hJ5.1 (by have:=hJ2.1;omega))) fun j8 hJ8=>?_
      exact cond_both (p:=fun (r : Family × Int × Int)=>specIsFamily r.1 = true) (fun _=>hK7 _ (some_ok hJ8 hI1.1.2.1 _ 2)) (fun _=>hK7 _ ⟨hJ8,none_ok _ _⟩)
    refine jn_to (fun j=>CurOk ⟨x0.b,j.1,j.2.1⟩ ∧ 0 ≤ j.2.2 ∧ j.2.2 ≤ 11) (fun (r : Family × Int × Int)=>specIsFamily r.1 = true) (fun K hK=>?_) fun j9 hJ9=>?_
    · have h9:=l01Below_ok hJ7.1 (n:=12) (by omega)
      exact hK _ ⟨h9.2,h9.1.1,by have:=h9.1.2.2 (by omega);dsimp only;omega⟩
    refine loopN_to (fun i v=>CurOk ⟨x0.b,v.2.1,v.2.2⟩ ∧ Born v1.2.2.1 (l1Parents (Family.mk [(Person.mk (l1Called ((v1.2.2.1.length : Nat) : Int)) (1 + ((l01Below (l01Cur.mk x0.b v1.2.2.2.2.1 v1.2.2.2.2.2) 2).1)) j5.2.2 j7.2.2 j9.2.2 (-1))] ([] : List Union)) 0) i v.1) (fun (r : Family × Int × Int)=>specIsFamily r.1 = true) ⟨hJ9.1,born0 hJ9.2⟩ (fun i2 v2 next2 hi hI2 hn2=>?_) fun v2 hI2=>?_
    · have h7:=l01Below_ok hI2.1 (n:=6) (by omega)
      exact hn2 _ ⟨h7.2,born_step hI2.2 hi hJ1.1 ⟨h7.1.1,h7.1.2.2 (by omega)⟩⟩
    have h8:=hI1.1.1
    have h5:=hb2.1.2.2 (by omega)
    have h7:=hI1.1.2.1.grow hI1.1.2.2 (by omega) (s:=(1 + ((l01Below (l01Cur.mk x0.b v1.2.2.2.2.1 v1.2.2.2.2.2) 2).1))) (by omega) hJ5.2.1 hJ7.2.1 hJ5.2.2 hJ7.2.2 hI2.2.1 hI2.2.2.1 (born_all hI2.2)
    exact hn _ ⟨⟨by simp only [List.length_append,List.length_singleton];omega,h7.1,h7.2⟩,hI1.2.1,hI2.1⟩ (by dsimp only;omega)
  refine loopN_to (fun i v=>CurOk ⟨x0.b,v.2.1,v.2.2⟩ ∧ Dying j3.2.2.2.1 v.1) (fun (r : Family × Int × Int)=>specIsFamily r.1 = true) ⟨hJ3.1,Dying.refl hJ3.2.1⟩ (fun i3 v3 next hi hI3 hn=>?_) fun v3 hI3=>?_
  · refine jn_to (fun j=>CurOk ⟨x0.b,j.2.1,j.2.2⟩) (fun (r : Family × Int × Int)=>specIsFamily r.1 = true) (fun K hK=>hK _ (l01Once_ok hI3.1 (by omega))) fun j10 hJ10=>?_
    refine cond_both (p:=fun (r : Family × Int × Int)=>specIsFamily r.1 = true) (fun _=>?_) (fun _=>hn _ ⟨hJ10,hI3.2⟩)
    refine loopN_to (fun i t=>Last v3.1 (l1Children (Family.mk v3.1 j3.2.2.2.2) ((i3 : Nat) : Int)) i3 i t) (fun (r : Family × Int × Int)=>specIsFamily r.1 = true) (last0 hJ3.2.1 hI3.2 hi) (fun i4 v4 next4 hi4 hI4 hn4=>?_) fun v4 hI4=>?_
    · exact hn4 _ (last_step hI4 (dy_born hJ3.2.1 hI3.2 (by have h9:=l1Children_rng hi4;dsimp only at h9;omega)).2)
    · exact hn _ ⟨(l01Int_ok hJ10 (by simp)).2,die_ok hJ3.2.1 hI3.2 hi hI4 (mem5b (l01Int_ok hJ10 (by simp)).1)⟩
  · refine jn_to (fun j=>specIsFamily ⟨j.1,j.2.1⟩ = true) (fun (r : Family × Int × Int)=>specIsFamily r.1 = true) (fun K hK=>hK _ ?_) fun j11 hJ11=>hJ11
    have e : ∀ z : Family,specIsFamily z = true → specIsFamily ⟨z.people,z.unions⟩ = true:=fun z h=>by cases z;exact h
    have h9:=l1Wed_ok (l01Cur.mk x0.b v3.2.1 v3.2.2) (x:=Family.mk v3.1 j3.2.2.2.2) (by rw [hJ3.2.2];exact hI3.2.valid hJ3.2.1)
    revert h9
    generalize l1Wed (l01Cur.mk x0.b v3.2.1 v3.2.2) (Family.mk v3.1 j3.2.2.2.2) = z
    intro h9
    exact e z.1 h9
theorem l8Close_ok {x0 : l01Cur} (hc : CurOk x0) : specIsFamily (l8Close x0).1 = true := by
  unfold l8Close
  refine jn_to (fun j=>(2 ≤ j.1 ∧ j.1 ≤ 3) ∧ CurOk ⟨x0.b,j.2.1,j.2.2⟩) (fun (r : Family × Int × Int)=>specIsFamily r.1 = true) (fun K hK=>?_) fun j1 hJ1=>?_
  · have h9:=l01Below_ok hc (n:=2) (by omega)
    have h8:=h9.1.2.2 (by omega)
    exact hK _ ⟨by dsimp only;omega,h9.2⟩
  refine jn_to (fun j=>(1 ≤ j.1 ∧ j.1 ≤ 10) ∧ CurOk ⟨x0.b,j.2.1,j.2.2⟩) (fun (r : Family × Int × Int)=>specIsFamily r.1 = true) (fun K hK=>?_) fun j2 hJ2=>?_
  · have h9:=l01Below_ok hJ1.2 (n:=10) (by omega)
    have h8:=h9.1.2.2 (by omega)
    exact hK _ ⟨by dsimp only;omega,h9.2⟩
  refine loopW_to (fun v=>CurOk ⟨x0.b,v.2.2.1,v.2.2.2⟩ ∧ Gen j1.1 v.1 v.2.1) (fun v=>Int.toNat v.1) (fun (r : Family × Int × Int)=>specIsFamily r.1 = true) (fun v1 next hI1 hn=>?_) _ _ (Nat.lt_succ_self _) ⟨hJ2.2,Gen.nil (by have h9:=hJ2.1;omega)⟩
  refine cond_both (p:=fun (r : Family × Int × Int)=>specIsFamily r.1 = true) (fun c1=>?_) (fun _=>(Dying.refl hI1.2.ok).valid hI1.2.ok)
  simp only [Bool.and_eq_true,decide_eq_true_eq] at c1
  have h4:=hJ1.1
  refine loopN_to (fun i v=>CurOk ⟨x0.b,v.2.1,v.2.2⟩ ∧ GenI j1.1 v1.1 v1.2.1 i v.1) (fun (r : Family × Int × Int)=>specIsFamily r.1 = true) ⟨hI1.1,hI1.2.start⟩ (fun i2 v2 next2 hi hI2 hn2=>?_) fun v2 hI2=>?_
  · refine jn_to (fun j=>CurOk ⟨x0.b,j.1,j.2.1⟩ ∧ (j.2.2 = -1 ∨ 0 < v1.2.1.length ∧ j.2.2 = (v1.2.1.length : Int) - j1.1)) (fun (r : Family × Int × Int)=>specIsFamily r.1 = true) (fun K3 hK3=>?_) fun j3 hJ3=>?_
    · refine jn_to (fun j=>CurOk ⟨x0.b,j.2.1,j.2.2⟩ ∧ (j.1 = true → 0 < v1.2.1.length)) (fun (r : Family × Int × Int)=>specIsFamily r.1 = true) (fun K hK=>?_) fun j4 hJ4=>?_
      · exact cond_both (p:=fun (r : Family × Int × Int)=>specIsFamily r.1 = true) (fun _=>hK _ ⟨l01Once_ok hI2.1 (by omega),fun h9=>by simp only [Bool.and_eq_true,decide_eq_true_eq] at h9;omega⟩) (fun _=>hK _ ⟨hI2.1,fun h9=>by simp only [Bool.and_eq_true,decide_eq_true_eq] at h9;omega⟩)
      · exact cond_both (p:=fun (r : Family × Int × Int)=>specIsFamily r.1 = true) (fun c=>hK3 _ ⟨hJ4.1,.inr ⟨hJ4.2 c,rfl⟩⟩) (fun _=>hK3 _ ⟨hJ4.1,.inl rfl⟩)
    · refine jn_to (fun j=>CurOk ⟨x0.b,j.2.1,j.2.2⟩ ∧ (j.1 = true → 0 < v1.2.1.length)) (fun (r : Family × Int × Int)=>specIsFamily r.1 = true) (fun K hK=>?_) fun j5 hJ5=>?_
      · exact cond_both (p:=fun (r : Family × Int × Int)=>specIsFamily r.1 = true) (fun _=>hK _ ⟨l01Once_ok hJ3.1 (by omega),fun h9=>by simp only [Bool.and_eq_true,decide_eq_true_eq] at h9;omega⟩) (fun _=>hK _ ⟨hJ3.1,fun h9=>by simp only [Bool.and_eq_true,decide_eq_true_eq] at h9;omega⟩)
      · exact cond_both (p:=fun (r : Family × Int × Int)=>specIsFamily r.1 = true) (fun c=>hn2 _ ⟨hJ5.1,hI2.2.step hI1.2 (by omega) h4 (by omega) (by omega) hJ3.2 (.inr ⟨hJ5.2 c,rfl⟩)⟩) (fun _=>hn2 _ ⟨hJ5.1,hI2.2.step hI1.2 (by omega) h4 (by omega) (by omega) hJ3.2 (.inl rfl)⟩)
  · exact hn _ ⟨hI2.1,hI2.2.done hI1.2 (by omega) h4⟩ (by dsimp only;omega)
theorem l01New_ok {b : List Int} (hb : ∀ y ∈ b, 0 ≤ y ∧ y ≤ 255) (hx : b.length ≤ 1048576) : CurOk (l01New b) := by
  unfold l01New
  refine loopW_to (fun v=>(0 ≤ v.1 ∧ v.1 ≤ 1073741823) ∧ 0 ≤ v.2) (fun v=>4000 - Int.toNat v.2) (fun (r : l01Cur)=>CurOk r) (fun v next hv hn=>?_) _ _ (Nat.lt_succ_self _) (by simp only;omega)
  refine cond_both (p:=fun (r : l01Cur)=>CurOk r) (fun c=>hn _ ?_ ?_) (fun _=>⟨hb,hx,⟨by simp only;omega,by simp only;omega⟩,by simp only [inR];omega⟩)
  · exact ⟨and_small _ 1073741823 1073741823 rfl (by omega),by dsimp only;omega⟩
  · simp only [Bool.and_eq_true,decide_eq_true_eq] at c;dsimp only;omega
def C35 (R : Family) : LV × List (Nat × BC):=(.agg [.own 0,.own 1],[(0,.arr 6 R.people.length (rowOf (cPerson true) R.people)),(1,.arr 4 R.unions.length (rowOf (cUnion true) R.unions))])
def makeFamily (x0 : List Int) (x1 : Int) : Family:=((l1Family (l01New x0) (Max.max 0 (Min.min x1 40))).1)
def A35 (x0 : List Int) (x1 : Int) : Ann:=.reg 2 [] [(1001,k79 6 [] x0),(1005,k78 10 [1006] (l01New x0) (Max.max 0 (Min.min x1 40)))] [4] [4,1010,2010] [] [] [] [0,4] (rt [(0,some 1010),(1,some 2010)] (C35 ((l1Family (l01New x0) (Max.max 0 (Min.min x1 40))).1)))
theorem ok_spec_MakeFamily (x0 : List Int) (x1 : Int) (hx : x0.length ≤ 1048576) (hb : ∀ y ∈ x0, 0 ≤ y ∧ y ≤ 255) : FnT Try.prog 35 [.ro false 1 x0.length (rowOf (cInt .u8) x0), .int .i64 x1] (C35 (makeFamily x0 x1)) := by
  have aux : ∀ R, makeFamily x0 x1 = R → slim (C35 R) (A35 x0 x1) [] := by
    intro R hR
    refine rg ⟨⟨by trivial,by trivial⟩,⟨by (exact l01New_ok hb hx),by (intros;omega)⟩,trivial⟩ ?_
    exact congrArg C35 hR
  exact Fn.go 11 Try.func35 (by kernel_rfl) (by kernel_rfl) (by simp [C35,Frs,FrsL,FrsB,rowOf,cInt,cBool,cStr,cSl,FrsL_app,cPerson,cUnion,cFamily,cClasses,cl01Cur]) (A35 x0 x1) (by kernel_rfl) (aux _ rfl)
def k35 (x0 : List Int) (x1 : Int) : Cl:=(hres (C35 (makeFamily x0 x1)),k2 (ok_spec_MakeFamily x0 x1))
def C36 (R : Family) : LV × List (Nat × BC):=(.agg [.own 0,.own 1],[(0,.arr 6 R.people.length (rowOf (cPerson true) R.people)),(1,.arr 4 R.unions.length (rowOf (cUnion true) R.unions))])
def makeClose (x0 : List Int) : Family:=((l8Close (l01New x0)).1)
def A36 (x0 : List Int) : Ann:=.reg 2 [] [(1001,k79 4 [] x0),(1002,k80 5 [1004] (l01New x0))] [2] [2,1005,2005] [] [] [] [0,4] (rt [(0,some 1005),(1,some 2005)] (C36 ((l8Close (l01New x0)).1)))
theorem ok_spec_MakeClose (x0 : List Int) (hx : x0.length ≤ 1048576) (hb : ∀ y ∈ x0, 0 ≤ y ∧ y ≤ 255) : FnT Try.prog 36 [.ro false 1 x0.length (rowOf (cInt .u8) x0)] (C36 (makeClose x0)) := by
  have aux : ∀ R, makeClose x0 = R → slim (C36 R) (A36 x0) [] := by
    intro R hR
    refine rg ⟨⟨by trivial,by trivial⟩,by (exact l01New_ok hb hx),trivial⟩ ?_
    exact congrArg C36 hR
  exact Fn.go 6 Try.func36 (by kernel_rfl) (by kernel_rfl) (by simp [C36,Frs,FrsL,FrsB,rowOf,cInt,cBool,cStr,cSl,FrsL_app,cPerson,cUnion,cFamily,cClasses,cl01Cur]) (A36 x0) (by kernel_rfl) (aux _ rfl)
def k36 (x0 : List Int) : Cl:=(hres (C36 (makeClose x0)),k2 (ok_spec_MakeClose x0))
def C13 (R : Int) : LV × List (Nat × BC):=(.int .i64 R,[])
def at1 (x0 : List Int) (x1 : Int) : Int:=bif (decide (x1 < ((x0.length : Nat) : Int))) then (x0.getD x1.toNat default) else (((x1 * 37) + (((x0.length : Nat) : Int) * 11)).tmod 256)
def A13 (x0 : List Int) (x1 : Int) : Ann:=r0 1 [0,1,4] [] (r0 1 [0,1,4,8] [] (cn (decide (x1 < ((x0.length : Nat) : Int))) (r1 1 [0,1,4] [] [pf (0 ≤ (x1 : Int) ∧ (x1 : Int) < ((x0.length : Nat) : Int)),pf (inR .i64 (x0.getD x1.toNat default))] [0,4] (rt [] (C13 (x0.getD x1.toNat default)))) (r1 1 [4] [] [pf (inR .i64 (x1 * 37)),pf (inR .i64 (((x0.length : Nat) : Int) * 11)),pf (inR .i64 ((x1 * 37) + (((x0.length : Nat) : Int) * 11))),pf ((256 : Int) ≠ 0)] [0,4,8,12] (rt [] (C13 (((x1 * 37) + (((x0.length : Nat) : Int) * 11)).tmod 256))))))
theorem at1_rng {b : List Int} (hb : ∀ y ∈ b, 0 ≤ y ∧ y ≤ 255) {i : Int} (hi : 0 ≤ i) : 0 ≤ at1 b i ∧ at1 b i ≤ 255 := by
  unfold at1
  refine cond_both (p:=fun (r : Int)=>0 ≤ r ∧ r ≤ 255) (fun _=>getD_byte hb _) (fun _=>?_)
  rw [Int.tmod_eq_emod_of_nonneg (by omega)]
  omega
theorem ok_laws_at (x0 : List Int) (x1 : Int) (hx : x0.length ≤ 1048576) (hb : ∀ y ∈ x0, 0 ≤ y ∧ y ≤ 255) (hi : 0 ≤ x1 ∧ x1 ≤ 1000) : FnT Try.prog 13 [.ro false 1 x0.length (rowOf (cInt .u8) x0), .int .i64 x1] (C13 (at1 x0 x1)) := by
  have aux : ∀ R, at1 x0 x1 = R → slim (C13 R) (A13 x0 x1) [] := by
    intro R hR
    refine rg trivial ?_
    refine rg trivial ?_
    revert hR;refine cd (fun hc1 hR=>?_) fun hc1 hR=>?_
    ·
      refine rg ⟨by ((try clear hR);intros;(try simp only [decide_eq_true_eq,decide_eq_false_iff_not,Bool.or_eq_true,Bool.and_eq_true,or_f_iff,not_f_iff,not_t_iff,Bool.not_eq_true',inR] at *);(repeat' apply And.intro) <;> (intros;omega)),by (have h9:=getD_byte hb x1.toNat;simp only [inR];omega),trivial⟩ ?_
      exact congrArg C13 hR
    ·
      refine rg ⟨by ( intros;simp only [inR];omega),by ( intros;simp only [inR];omega),by ( intros;simp only [inR];omega),by trivial,trivial⟩ ?_
      exact congrArg C13 hR
  exact Fn.go 21 Try.func13 (by kernel_rfl) (by kernel_rfl) (by simp [C13,Frs,FrsL]) (A13 x0 x1) (by kernel_rfl) (aux _ rfl)
def k13 (x0 : List Int) (x1 : Int) : Cl:=(hres (C13 (at1 x0 x1)),k3 (ok_laws_at x0 x1))
def C15 (R : Int) : LV × List (Nat × BC):=(.int .i64 R,[])
def who (x0 : List Int) (x1 : Int) (x2 : Family) : Int:=(at1 x0 x1).tmod ((x2.people.length : Nat) : Int)
def A15 (x0 : List Int) (x1 : Int) (x2 : Family) : Ann:=.reg 2 [] [(1002,k13 x0 x1)] [6] [] [] [pf ((((x2.people.length : Nat) : Int) : Int) ≠ 0)] [] [4,0] (rt [] (C15 ((at1 x0 x1).tmod ((x2.people.length : Nat) : Int))))
theorem who_rng {b : List Int} (hb : ∀ y ∈ b, 0 ≤ y ∧ y ≤ 255) {i : Int} (hi : 0 ≤ i) {x : Family} (hx : 0 < x.people.length) : 0 ≤ who b i x ∧ who b i x < x.people.length := by
  unfold who
  have h:=at1_rng hb hi
  rw [Int.tmod_eq_emod_of_nonneg h.1]
  exact ⟨Int.emod_nonneg _ (by omega),Int.emod_lt_of_pos _ (by omega)⟩
theorem ok_laws_who (x0 : List Int) (x1 : Int) (x2 : Family) (hx : x0.length ≤ 1048576) (hb : ∀ y ∈ x0, 0 ≤ y ∧ y ≤ 255) (hi : 0 ≤ x1 ∧ x1 ≤ 1000) (hf : 0 < x2.people.length ∧ x2.people.length ≤ 40) : FnT Try.prog 15 [.ro false 1 x0.length (rowOf (cInt .u8) x0), .int .i64 x1, .agg (cFamily false x2)] (C15 (who x0 x1 x2)) := by
  have aux : ∀ R, who x0 x1 x2 = R → slim (C15 R) (A15 x0 x1 x2) [] := by
    intro R hR
    refine rg ⟨by (intros;omega),⟨by trivial,by trivial,by trivial⟩,trivial⟩ ?_
    exact congrArg C15 hR
  exact Fn.go 14 Try.func15 (by kernel_rfl) (by kernel_rfl) (by simp [C15,Frs,FrsL]) (A15 x0 x1 x2) (by kernel_rfl) (aux _ rfl)
def k15 (x0 : List Int) (x1 : Int) (x2 : Family) : Cl:=(hres (C15 (who x0 x1 x2)),k4 (ok_laws_who x0 x1 x2))
def C11 (R : Family) : LV × List (Nat × BC):=(.agg [.own 0,.own 1],[(0,.arr 6 R.people.length (rowOf (cPerson true) R.people)),(1,.arr 4 R.unions.length (rowOf (cUnion true) R.unions))])
def crowd (x0 : List Int) (x1 : Int) : Family:=bif (decide (((at1 x0 9).tmod 4) = 0)) then (bif (decide (((((makeClose x0).people).length : Nat) : Int) = 0)) then (Family.mk [(Person.mk [97,97] 1 (-1) (-1) 0 (-1))] ((makeClose x0).unions)) else (makeClose x0)) else (bif (decide (((((makeFamily x0 x1).people).length : Nat) : Int) = 0)) then (Family.mk [(Person.mk [97,97] 1 (-1) (-1) 0 (-1))] ((makeFamily x0 x1).unions)) else (makeFamily x0 x1))
def A11 (x0 : List Int) (x1 : Int) : Ann:=.reg 2 [] [(1002,k35 x0 x1)] [0,4,5] [4,5,1008,2008] [] [] [] [0] (.reg 1 [] [(1,k13 x0 9)] [0,4,5,12] [4,5,1008,2008] [] [pf ((4 : Int) ≠ 0)] [] [4,0] (cn (decide (((at1 x0 9).tmod 4) = 0)) (.reg 1 [] [(1,k36 x0)] [4,5] [4,5,1014,2014] [] [] [] [0] (r0 1 [4,5,18] [4,5,1014,2014] (cn (decide (((((makeClose x0).people).length : Nat) : Int) = 0)) (.reg 1 [] [(1,bsC 20 (cPerson true) ([(Person.mk [97,97] 1 (-1) (-1) 0 (-1))] : List Person))] [4,5] [4,5,20,2014] [] [] [] [0] (r0 1 [4] [4,20,2014] (rt [(0,some 20),(1,some 2014)] (C11 (Family.mk [(Person.mk [97,97] 1 (-1) (-1) 0 (-1))] ((makeClose x0).unions)))))) (r0 1 [4] [4,1014,2014] (rt [(0,some 1014),(1,some 2014)] (C11 (makeClose x0))))))) (r0 1 [4,5,18] [4,5,1008,2008] (cn (decide (((((makeFamily x0 x1).people).length : Nat) : Int) = 0)) (.reg 1 [] [(1,bsC 20 (cPerson true) ([(Person.mk [97,97] 1 (-1) (-1) 0 (-1))] : List Person))] [4,5] [4,5,20,2008] [] [] [] [0] (r0 1 [4] [4,20,2008] (rt [(0,some 20),(1,some 2008)] (C11 (Family.mk [(Person.mk [97,97] 1 (-1) (-1) 0 (-1))] ((makeFamily x0 x1).unions)))))) (r0 1 [4] [4,1008,2008] (rt [(0,some 1008),(1,some 2008)] (C11 (makeFamily x0 x1))))))))
theorem crowd_ok {b : List Int} (hx : b.length ≤ 1048576) (hb : ∀ y ∈ b, 0 ≤ y ∧ y ≤ 255) (m : Int) : specIsFamily (crowd b m) = true ∧ 0 < (crowd b m).people.length := by
  have one : ∀ z : Family, specIsFamily z = true → ((z.people.length : Nat) : Int) = 0 → specIsFamily (Family.mk [(Person.mk [97, 97] 1 (-1) (-1) 0 (-1))] z.unions) = true := fun z hz h0 => by
    have hu : z.unions = [] := by
      cases hu : z.unions with
      | nil=>rfl
      | cons u r =>
        have:=(fam_u hz (k:=0) (by rw [hu];simp)).man
        omega
    rw [hu]
    exact (by kernel_rfl : specIsFamily (Family.mk [(Person.mk [97,97] 1 (-1) (-1) 0 (-1))] []) = true)
  have both : ∀ z : Family, specIsFamily z = true → ∀ r : Family, (bif decide (((z.people.length : Nat) : Int) = 0) then (Family.mk [(Person.mk [97, 97] 1 (-1) (-1) 0 (-1))] z.unions) else z) = r → specIsFamily r = true ∧ 0 < r.people.length := fun z hz r hr => by
    subst hr
    exact cond_both (p:=fun (r : Family)=>specIsFamily r = true ∧ 0 < r.people.length) (fun c=>⟨one z hz (of_decide_eq_true c),by simp⟩) (fun c=>⟨hz,by have:=of_decide_eq_false c;omega⟩)
  unfold crowd
  refine cond_both (p:=fun (r : Family)=>specIsFamily r = true ∧ 0 < r.people.length) (fun _=>both (makeClose b) (l8Close_ok (l01New_ok hb hx)) _ rfl) (fun _=>both (makeFamily b m) (l1Family_ok (l01New_ok hb hx) (by omega)) _ rfl)
theorem name_len {s : List UInt8} (h : specIsName s = true) : s.length ≤ 12 := by
  simp only [specIsName,cond_f_iff,or_f_iff,loopN_all,l1In,Bool.and_eq_true,decide_eq_true_eq,decide_eq_false_iff_not,and_true] at h
  omega
theorem fam_names {x : Family} (hf : specIsFamily x = true) : ∀ p ∈ x.people, p.name.length ≤ 1048576 := fun p hp => by
  obtain ⟨i,hi,e⟩:=List.getElem_of_mem hp
  have h:=name_len (fam_p hf hi).name
  rw [List.getD_eq_getElem?_getD,List.getElem?_eq_getElem hi,Option.getD_some,e] at h
  omega
theorem bytes_ok {x : List Int} (h : x.length ≤ 1048576 ∧ ∀ y ∈ x,inR .u8 y) : x.length ≤ 1048576 ∧ ∀ y ∈ x,0 ≤ y ∧ y ≤ 255:=⟨h.1,fun y hy=>by have:=h.2 y hy;simp only [inR] at this;omega⟩
theorem crowd_bd {b : List Int} (h : b.length ≤ 1048576 ∧ ∀ y ∈ b, inR .u8 y) (m : Int) : specIsFamily (crowd b m) = true ∧ (0 < (crowd b m).people.length ∧ (crowd b m).people.length ≤ 40) ∧ (crowd b m).unions.length ≤ 60 ∧ ∀ p ∈ (crowd b m).people, p.name.length ≤ 1048576 := by
  have h1:=crowd_ok (bytes_ok h).1 (bytes_ok h).2 m
  have h2:=fam_n h1.1
  exact ⟨h1.1,⟨h1.2,h2.1⟩,h2.2,fam_names h1.1⟩
theorem ok_laws_crowd (x0 : List Int) (x1 : Int) (hx : x0.length ≤ 1048576) (hb : ∀ y ∈ x0, 0 ≤ y ∧ y ≤ 255) (hm : 0 ≤ x1 ∧ x1 ≤ 40) : FnT Try.prog 11 [.ro false 1 x0.length (rowOf (cInt .u8) x0), .int .i64 x1] (C11 (crowd x0 x1)) := by
  have aux : ∀ R, crowd x0 x1 = R → slim (C11 R) (A11 x0 x1) [] := by
    intro R hR
    refine rg ⟨⟨by trivial,by trivial⟩,trivial⟩ ?_
    refine rg ⟨by trivial,⟨by trivial,by trivial,by trivial⟩,trivial⟩ ?_
    revert hR;refine cd (fun hc1 hR=>?_) fun hc1 hR=>?_
    ·
      refine rg ⟨⟨by trivial,by trivial⟩,trivial⟩ ?_
      refine rg trivial ?_
      revert hR;refine cd (fun hc2 hR=>?_) fun hc2 hR=>?_
      ·
        refine rg ⟨trivial,trivial⟩ ?_
        refine rg trivial ?_
        exact congrArg C11 hR
      ·
        refine rg trivial ?_
        exact congrArg C11 hR
    ·
      refine rg trivial ?_
      revert hR;refine cd (fun hc3 hR=>?_) fun hc3 hR=>?_
      ·
        refine rg ⟨trivial,trivial⟩ ?_
        refine rg trivial ?_
        exact congrArg C11 hR
      ·
        refine rg trivial ?_
        exact congrArg C11 hR
  exact Fn.go 23 Try.func11 (by kernel_rfl) (by kernel_rfl) (by simp [C11,Frs,FrsL,FrsB,rowOf,cInt,cBool,cStr,cSl,FrsL_app,cPerson,cUnion,cFamily,cClasses,cl01Cur]) (A11 x0 x1) (by kernel_rfl) (aux _ rfl)
def k11 (x0 : List Int) (x1 : Int) : Cl:=(hres (C11 (crowd x0 x1)),k3 (ok_laws_crowd x0 x1))
def C18 (R : Bool) : LV × List (Nat × BC):=(.bool R,[])
def lawHas (x0 : List Int) (x1 : Int) : Bool:=loopN (fun i1 (v1 : Unit) next=>bif (decide (x1 = (x0.getD i1 default))) then true else (next ())) (fun (v1 : Unit)=>false) x0.length 0 ()
def D18b1 (x0 : List Int) (x1 : Int) (i1 : Nat) (v1 : Unit) : Dl:=⟨[(9,.int .i64 ((i1 : Nat) : Int))],[]⟩
def A18b1 (x0 : List Int) (x1 : Int) (i1 : Nat) (v1 : Unit) : Ann:=r0 1 [1,4,7,8,9,10] [] (cn (decide (((i1 : Nat) : Int) < ((x0.length : Nat) : Int))) (r1 2 [1,4,7,8,9,15] [] [pf (0 ≤ (((i1 : Nat) : Int) : Int) ∧ (((i1 : Nat) : Int) : Int) < ((x0.length : Nat) : Int))] [0] (cn (decide (x1 = (x0.getD i1 default))) (r0 1 [1,4,7,8,9] [] (rt [] (C18 true))) (r1 1 [1,4,7,8,9] [] [pf (inR .i64 (((i1 : Nat) : Int) + 1))] [0] (.next 0 [] (D18b1 x0 x1 (i1 + 1) ()))))) (r0 1 [4] [] (rt [] (C18 false))))
def A18 (x0 : List Int) (x1 : Int) : Ann:=r0 1 [0,1,4] [] (r0 1 [1,4,7,8,9] [] (lp (D18b1 x0 x1) [] [] [] (D18b1 x0 x1 0 ()) (A18b1 x0 x1)))
theorem ok_laws_has (x0 : List Int) (x1 : Int) (hx : x0.length ≤ 1048576) : FnT Try.prog 18 [.ro false 1 x0.length (rowOf (cInt .i64) x0), .int .i64 x1] (C18 (lawHas x0 x1)) := by
  have aux : ∀ R, lawHas x0 x1 = R → slim (C18 R) (A18 x0 x1) [] := by
    intro R hR
    refine rg trivial ?_
    refine rg trivial ?_
    revert hR;refine lN (fun i v=>True) (by trivial) rfl fun i1 v1 F1 hn1 hI1 hR hK1=>?_
    refine rg trivial ?_
    refine ⟨fun hc1=>?_,fun hc1=>?_⟩
    · have hii1 : i1 < x0.length:=by have:=of_decide_eq_true hc1;omega
      replace hR:=loopN_step hR hii1
      refine rg ⟨by (intros;omega),trivial⟩ ?_
      revert hR;refine cd (fun hc2 hR=>?_) fun hc2 hR=>?_
      ·
        refine rg trivial ?_
        exact congrArg C18 hR
      ·
        refine rg ⟨by ( intros;simp only [inR];omega),trivial⟩ ?_
        exact hK1 () hii1 (by trivial) hR
    · obtain rfl : i1 = x0.length:=by have:=of_decide_eq_false hc1;omega
      replace hR:=loopN_end hR (Nat.lt_irrefl _)
      refine rg trivial ?_
      exact congrArg C18 hR
  exact Fn.go 17 Try.func18 (by kernel_rfl) (by kernel_rfl) (by simp [C18,Frs,FrsL]) (A18 x0 x1) (by kernel_rfl) (aux _ rfl)
def k18 (x0 : List Int) (x1 : Int) : Cl:=(hres (C18 (lawHas x0 x1)),k1 (ok_laws_has x0 x1))
theorem fLoop_mem {n : Nat} {p : Nat → Bool} {f : Nat → Int} {y : Int} : y ∈ loopN (fun i (v : List Int) next => bif p i then next (v ++ [f i]) else next v) (fun v => v) n 0 [] ↔ ∃ i, i < n ∧ p i = true ∧ y = f i := by
  refine loopN_to (fun i (v : List Int)=>y ∈ v ↔ ∃ k,k < i ∧ p k = true ∧ y = f k) (fun (r : List Int)=>y ∈ r ↔ ∃ k,k < n ∧ p k = true ∧ y = f k) (by simp) (fun i v next hi hv hn=>?_) (fun v hv=>hv)
  refine cond_both (p:=fun (r : List Int)=>y ∈ r ↔ ∃ k,k < n ∧ p k = true ∧ y = f k) (fun c=>hn _ ?_) (fun c=>hn _ ?_)
  · simp only [List.mem_append,List.mem_singleton,hv]
    constructor
    · rintro (⟨k,h1,h2,h3⟩ | h)
      · exact ⟨k,by omega,h2,h3⟩
      · exact ⟨i,by omega,c,h⟩
    · rintro ⟨k,h1,h2,h3⟩
      by_cases e : k = i
      · subst e;exact .inr h3
      · exact .inl ⟨k,by omega,h2,h3⟩
  · rw [hv]
    constructor
    · rintro ⟨k,h1,h2,h3⟩;exact ⟨k,by omega,h2,h3⟩
    · rintro ⟨k,h1,h2,h3⟩
      by_cases e : k = i
      · subst e;rw [c] at h2;cases h2
      · exact ⟨k,by omega,h2,h3⟩
theorem lawHas_iff (l : List Int) (y : Int) : lawHas l y = true ↔ y ∈ l := by
  unfold lawHas
  rw [loopN_any]
  constructor
  · rintro (⟨j,h1,h2⟩ | h)
    · rw [of_decide_eq_true h2];exact getD_mem h1
    · cases h
  · intro h
    obtain ⟨k,h1,h2⟩:=mem_getD (d:=default) h
    exact .inl ⟨k,h1,decide_eq_true h2.symm⟩
/-! ### Ways up -/
theorem Up.head {x : Family} {p q : Int} {n : Nat} (h : Up x p n q) : (n = 0 ∧ q = p) ∨ ∃ r m, r ∈ l1Parents x p ∧ n = m + 1 ∧ Up x r m q := by
  induction h with
  | zero=>exact .inl ⟨rfl,rfl⟩
  | @step n a q h hq ih =>
    rcases ih with ⟨e1,e2⟩ | ⟨r,m,h1,h2,h3⟩
    · subst e1;subst e2;exact .inr ⟨q,0,hq,rfl,.zero⟩
    · exact .inr ⟨r,m + 1,h1,by omega,.step h3 hq⟩
def Above (x : Family) (p q : Int) : Prop:=∃ n,Up x p n q
theorem Above.head {x : Family} {p q : Int} : Above x p q → q = p ∨ ∃ r, r ∈ l1Parents x p ∧ Above x r q := fun ⟨n, h⟩ => by
  rcases h.head with ⟨_,e⟩ | ⟨r,m,h1,_,h3⟩
  · exact .inl e
  · exact .inr ⟨r,h1,m,h3⟩
def C20 (R : Bool) : LV × List (Nat × BC):=(.bool R,[])
def lawSubset (x0 : List Int) (x1 : List Int) : Bool:=loopN (fun i1 (v1 : Unit) next=>bif (!(lawHas x1 (x0.getD i1 default))) then false else (next ())) (fun (v1 : Unit)=>true) x0.length 0 ()
def D20b1 (x0 : List Int) (x1 : List Int) (i1 : Nat) (v1 : Unit) : Dl:=⟨[(9,.int .i64 ((i1 : Nat) : Int))],[]⟩
def A20b1 (x0 : List Int) (x1 : List Int) (i1 : Nat) (v1 : Unit) : Ann:=r0 1 [1,4,7,8,9,10] [] (cn (decide (((i1 : Nat) : Int) < ((x0.length : Nat) : Int))) (.reg 2 [] [(1002,k18 x1 (x0.getD i1 default))] [1,4,7,8,9,16] [] [] [pf (0 ≤ (((i1 : Nat) : Int) : Int) ∧ (((i1 : Nat) : Int) : Int) < ((x0.length : Nat) : Int))] [] [0,4] (cn (!(lawHas x1 (x0.getD i1 default))) (r0 1 [1,4,7,8,9] [] (rt [] (C20 false))) (r1 1 [1,4,7,8,9] [] [pf (inR .i64 (((i1 : Nat) : Int) + 1))] [0] (.next 0 [] (D20b1 x0 x1 (i1 + 1) ()))))) (r0 1 [4] [] (rt [] (C20 true))))
def A20 (x0 : List Int) (x1 : List Int) : Ann:=r0 1 [0,1,4] [] (r0 1 [1,4,7,8,9] [] (lp (D20b1 x0 x1) [] [] [] (D20b1 x0 x1 0 ()) (A20b1 x0 x1)))
theorem ok_laws_subset (x0 : List Int) (x1 : List Int) (hx : x0.length ≤ 1048576) (hy : x1.length ≤ 1048576) : FnT Try.prog 20 [.ro false 1 x0.length (rowOf (cInt .i64) x0), .ro false 1 x1.length (rowOf (cInt .i64) x1)] (C20 (lawSubset x0 x1)) := by
  have aux : ∀ R, lawSubset x0 x1 = R → slim (C20 R) (A20 x0 x1) [] := by
    intro R hR
    refine rg trivial ?_
    refine rg trivial ?_
    revert hR;refine lN (fun i v=>True) (by trivial) rfl fun i1 v1 F1 hn1 hI1 hR hK1=>?_
    refine rg trivial ?_
    refine ⟨fun hc1=>?_,fun hc1=>?_⟩
    · have hii1 : i1 < x0.length:=by have:=of_decide_eq_true hc1;omega
      replace hR:=loopN_step hR hii1
      refine rg ⟨by (intros;omega),by trivial,trivial⟩ ?_
      revert hR;refine cd (fun hc2 hR=>?_) fun hc2 hR=>?_
      ·
        refine rg trivial ?_
        exact congrArg C20 hR
      ·
        refine rg ⟨by ( intros;simp only [inR];omega),trivial⟩ ?_
        exact hK1 () hii1 (by trivial) hR
    · obtain rfl : i1 = x0.length:=by have:=of_decide_eq_false hc1;omega
      replace hR:=loopN_end hR (Nat.lt_irrefl _)
      refine rg trivial ?_
      exact congrArg C20 hR
  exact Fn.go 18 Try.func20 (by kernel_rfl) (by kernel_rfl) (by simp [C20,Frs,FrsL]) (A20 x0 x1) (by kernel_rfl) (aux _ rfl)
def k20 (x0 : List Int) (x1 : List Int) : Cl:=(hres (C20 (lawSubset x0 x1)),k2 (ok_laws_subset x0 x1))
end Go.Proofs.Ytaageiiodlfeiaa
