import Derived.Test.YtaageiiodlfeiaaV49
set_option maxHeartbeats 4000000
set_option linter.unusedSimpArgs false
set_option linter.unusedVariables false
namespace Go.Proofs.Ytaageiiodlfeiaa
open Go Go.Lite Go.Proofs
theorem jn_to {S α:Type} {f:(S→α)→α} {k:S→α} (J:S→Prop) (Q:α→Prop) (h1:∀ K:S→α,(∀ v,J v→Q (K v))→Q (f K)) (h2:∀ v,J v→Q (k v)):Q (jn f k):=h1 k h2
theorem zzi (c:l01Cur) {x:Family} (hf:zbh x=true):zbh (l1Wed c x).1=true:=by
 unfold l1Wed
 refine jn_to (fun _=>True) (fun (r:Family×Int×Int)=>zbh r.1=true) (fun K hK=>hK _ trivial) fun j1 _=>?_
 refine zcj (fun v=>zbh ⟨v.2.1,v.2.2.1⟩=true) (fun v=>Int.toNat v.1) (fun (r:Family×Int×Int)=>zbh r.1=true) (fun v next hv hn=>?_) _ _ (Nat.lt_succ_self _) (by cases x;exact hf)
 refine zbz (p:=fun (r:Family×Int×Int)=>zbh r.1=true) (fun c1=>?_) (fun _=>hv)
 have c1:=of_decide_eq_true c1
 refine jn_to (fun _=>True) (fun (r:Family×Int×Int)=>zbh r.1=true) (fun K hK=>hK _ trivial) fun j2 _=>?_
 refine jn_to (fun _=>True) (fun (r:Family×Int×Int)=>zbh r.1=true) (fun K hK=>hK _ trivial) fun j3 _=>?_
 refine zbz (p:=fun (r:Family×Int×Int)=>zbh r.1=true) (fun _=>hn _ hv zau) (fun _=>?_)
 refine jn_to (fun _=>True) (fun (r:Family×Int×Int)=>zbh r.1=true) (fun K hK=>hK _ trivial) fun j4 _=>?_
 refine zbz (p:=fun (r:Family×Int×Int)=>zbh r.1=true) (fun _=>?_) (fun _=>?_)
 ·exact zbz (p:=fun (r:Family×Int×Int)=>zbh r.1=true) (fun c2=>hn _ c2 zau) (fun _=>hn _ hv zau)
 ·exact zbz (p:=fun (r:Family×Int×Int)=>zbh r.1=true) (fun c2=>hn _ c2 zau) (fun _=>hn _ hv zau)
theorem zs1 {x0:l01Cur} (hc:CurOk x0) {x1:Int} (hm:0≤x1∧x1≤40):zbh (zhw x0 x1).1=true:=by
 unfold zhw
 refine jn_to (fun j=>(1≤j.1∧j.1≤25)∧CurOk ⟨x0.b,j.2.1,j.2.2⟩) (fun (r:Family×Int×Int)=>zbh r.1=true) (fun K hK=>hK _ ⟨mem4 (zcv hc zaz).1,(zcv hc zaz).2⟩) fun j1 hJ1=>?_
 refine jn_to (fun j=>(1≤j.1∧j.1≤9)∧CurOk ⟨x0.b,j.2.1,j.2.2⟩) (fun (r:Family×Int×Int)=>zbh r.1=true) (fun K hK=>hK _ ⟨mem3b (zcv hJ1.2 zaz).1,(zcv hJ1.2 zaz).2⟩) fun j2 hJ2=>?_
 refine jn_to (fun j=>CurOk ⟨x0.b,j.1,j.2.1⟩∧Mk j.2.2.2.1∧j.2.2.2.2=[]) (fun (r:Family×Int×Int)=>zbh r.1=true) (fun K3 hK3=>?_) fun j3 hJ3=>?_
 ·refine jn_to (fun j=>(0≤j.1∧j.1≤40)∧CurOk ⟨x0.b,j.2.1,j.2.2⟩) (fun (r:Family×Int×Int)=>zbh r.1=true) (fun K hK=>?_) fun j4 hJ4=>?_
  ·have h9:=zb8 hJ2.2 (n:=x1+1) om
   exact hK _ ⟨⟨h9.1.1,by have:=h9.1.2.2 om;dsimp only;omega⟩,h9.2⟩
  refine zcj (fun v=>((v.2.2.1.length:Int)+v.1≤40∧Mk v.2.2.1∧MkB v.2.2.1)∧v.2.2.2.1=[]∧CurOk ⟨x0.b,v.2.2.2.2.1,v.2.2.2.2.2⟩) (fun v=>Int.toNat v.1) (fun (r:Family×Int×Int)=>zbh r.1=true) (fun v1 next hI1 hn=>?_) _ _ (Nat.lt_succ_self _) ⟨⟨by simp only [List.length_nil];omega,Mk.nil,MkB.nil⟩,rfl,hJ4.2⟩
  refine zbz (p:=fun (r:Family×Int×Int)=>zbh r.1=true) (fun c1=>?_) (fun _=>hK3 _ ⟨hI1.2.2,hI1.1.2.1,hI1.2.1⟩)
  have c1:=of_decide_eq_true c1
  have hb2:=zb8 hI1.2.2 (n:=2) om
  refine jn_to (fun j=>CurOk ⟨x0.b,j.1,j.2.1⟩∧PaDp v1.2.2.1 j.2.2 1) (fun (r:Family×Int×Int)=>zbh r.1=true) (fun K5 hK5=>?_) fun j5 hJ5=>?_
  ·refine jn_to (fun j=>CurOk ⟨x0.b,j.2.1,j.2.2⟩) (fun (r:Family×Int×Int)=>zbh r.1=true) (fun K hK=>hK _ (zdk hb2.2 (by have:=hJ2.1;omega))) fun j6 hJ6=>?_
   exact zbz (p:=fun (r:Family×Int×Int)=>zbh r.1=true) (fun _=>hK5 _ (zpm hJ6 hI1.1.2.1 _ 1)) (fun _=>hK5 _ ⟨hJ6,zp2 _ _⟩)
  refine jn_to (fun j=>CurOk ⟨x0.b,j.1,j.2.1⟩∧PaDp v1.2.2.1 j.2.2 2) (fun (r:Family×Int×Int)=>zbh r.1=true) (fun K7 hK7=>?_) fun j7 hJ7=>?_
  ·refine jn_to (fun j=>CurOk ⟨x0.b,j.2.1,j.2.2⟩) (fun (r:Family×Int×Int)=>zbh r.1=true) (fun K hK=>hK _ (zdk hJ5.1 (by have:=hJ2.1;omega))) fun j8 hJ8=>?_
   exact zbz (p:=fun (r:Family×Int×Int)=>zbh r.1=true) (fun _=>hK7 _ (zpm hJ8 hI1.1.2.1 _ 2)) (fun _=>hK7 _ ⟨hJ8,zp2 _ _⟩)
  refine jn_to (fun j=>CurOk ⟨x0.b,j.1,j.2.1⟩∧0≤j.2.2∧j.2.2≤11) (fun (r:Family×Int×Int)=>zbh r.1=true) (fun K hK=>?_) fun j9 hJ9=>?_
  ·have h9:=zb8 hJ7.1 (n:=12) om
   exact hK _ ⟨h9.2,h9.1.1,by have:=h9.1.2.2 om;dsimp only;omega⟩
  refine zcc (fun i v=>CurOk ⟨x0.b,v.2.1,v.2.2⟩∧Born v1.2.2.1 (zbj (Family.mk [(Person.mk (zb6 ((v1.2.2.1.length:Nat):Int)) (1+((zbn (l01Cur.mk x0.b v1.2.2.2.2.1 v1.2.2.2.2.2) 2).1)) j5.2.2 j7.2.2 j9.2.2 (-1))] ([]:List Union)) 0) i v.1) (fun (r:Family×Int×Int)=>zbh r.1=true) ⟨hJ9.1,born0 hJ9.2⟩ (fun i2 v2 next2 hi hI2 hn2=>?_) fun v2 hI2=>?_
  ·have h7:=zb8 hI2.1 (n:=6) om
   exact hn2 _ ⟨h7.2,zsa hI2.2 hi hJ1.1 ⟨h7.1.1,h7.1.2.2 om⟩⟩
  have h8:=hI1.1.1
  have h5:=hb2.1.2.2 om
  have h7:=hI1.1.2.1.grow hI1.1.2.2 om (s:=(1+((zbn (l01Cur.mk x0.b v1.2.2.2.2.1 v1.2.2.2.2.2) 2).1))) om hJ5.2.1 hJ7.2.1 hJ5.2.2 hJ7.2.2 hI2.2.1 hI2.2.2.1 (zu7 hI2.2)
  exact hn _ ⟨⟨by simp only [List.length_append,List.length_singleton];omega,h7.1,h7.2⟩,hI1.2.1,hI2.1⟩ zau
 refine zcc (fun i v=>CurOk ⟨x0.b,v.2.1,v.2.2⟩∧Dying j3.2.2.2.1 v.1) (fun (r:Family×Int×Int)=>zbh r.1=true) ⟨hJ3.1,Dying.refl hJ3.2.1⟩ (fun i3 v3 next hi hI3 hn=>?_) fun v3 hI3=>?_
 ·refine jn_to (fun j=>CurOk ⟨x0.b,j.2.1,j.2.2⟩) (fun (r:Family×Int×Int)=>zbh r.1=true) (fun K hK=>hK _ (zdk hI3.1 om)) fun j10 hJ10=>?_
  refine zbz (p:=fun (r:Family×Int×Int)=>zbh r.1=true) (fun _=>?_) (fun _=>hn _ ⟨hJ10,hI3.2⟩)
  refine zcc (fun i t=>Last v3.1 (zcl (Family.mk v3.1 j3.2.2.2.2) ((i3:Nat):Int)) i3 i t) (fun (r:Family×Int×Int)=>zbh r.1=true) (last0 hJ3.2.1 hI3.2 hi) (fun i4 v4 next4 hi4 hI4 hn4=>?_) fun v4 hI4=>?_
  ·exact hn4 _ (zrr hI4 (zs8 hJ3.2.1 hI3.2 (by have h9:=zg4 hi4;dsimp only at h9;omega)).2)
  ·exact hn _ ⟨(zcv hJ10 zaz).2,z0s hJ3.2.1 hI3.2 hi hI4 (mem5b (zcv hJ10 zaz).1)⟩
 ·refine jn_to (fun j=>zbh ⟨j.1,j.2.1⟩=true) (fun (r:Family×Int×Int)=>zbh r.1=true) (fun K hK=>hK _ ?_) fun j11 hJ11=>hJ11
  have e:∀ z:Family,zbh z=true→zbh ⟨z.people,z.unions⟩=true:=fun z h=>by cases z;exact h
  have h9:=zzi (l01Cur.mk x0.b v3.2.1 v3.2.2) (x:=Family.mk v3.1 j3.2.2.2.2) (by rw [hJ3.2.2];exact hI3.2.valid hJ3.2.1)
  revert h9
  generalize l1Wed (l01Cur.mk x0.b v3.2.1 v3.2.2) (Family.mk v3.1 j3.2.2.2.2)=z
  intro h9
  exact e z.1 h9
theorem zv0 {x0:l01Cur} (hc:CurOk x0):zbh (zjt x0).1=true:=by
 unfold zjt
 refine jn_to (fun j=>(2≤j.1∧j.1≤3)∧CurOk ⟨x0.b,j.2.1,j.2.2⟩) (fun (r:Family×Int×Int)=>zbh r.1=true) (fun K hK=>?_) fun j1 hJ1=>?_
 ·have h9:=zb8 hc (n:=2) om
  have h8:=h9.1.2.2 om
  exact hK _ ⟨by dsimp only;omega,h9.2⟩
 refine jn_to (fun j=>(1≤j.1∧j.1≤10)∧CurOk ⟨x0.b,j.2.1,j.2.2⟩) (fun (r:Family×Int×Int)=>zbh r.1=true) (fun K hK=>?_) fun j2 hJ2=>?_
 ·have h9:=zb8 hJ1.2 (n:=10) om
  have h8:=h9.1.2.2 om
  exact hK _ ⟨by dsimp only;omega,h9.2⟩
 refine zcj (fun v=>CurOk ⟨x0.b,v.2.2.1,v.2.2.2⟩∧Gen j1.1 v.1 v.2.1) (fun v=>Int.toNat v.1) (fun (r:Family×Int×Int)=>zbh r.1=true) (fun v1 next hI1 hn=>?_) _ _ (Nat.lt_succ_self _) ⟨hJ2.2,Gen.nil (by have h9:=hJ2.1;omega)⟩
 refine zbz (p:=fun (r:Family×Int×Int)=>zbh r.1=true) (fun c1=>?_) (fun _=>(Dying.refl hI1.2.ok).valid hI1.2.ok)
 simp only [Bool.and_eq_true,decide_eq_true_eq] at c1
 have h4:=hJ1.1
 refine zcc (fun i v=>CurOk ⟨x0.b,v.2.1,v.2.2⟩∧GenI j1.1 v1.1 v1.2.1 i v.1) (fun (r:Family×Int×Int)=>zbh r.1=true) ⟨hI1.1,hI1.2.start⟩ (fun i2 v2 next2 hi hI2 hn2=>?_) fun v2 hI2=>?_
 ·refine jn_to (fun j=>CurOk ⟨x0.b,j.1,j.2.1⟩∧(j.2.2=-1∨0<v1.2.1.length∧j.2.2=(v1.2.1.length:Int) - j1.1)) (fun (r:Family×Int×Int)=>zbh r.1=true) (fun K3 hK3=>?_) fun j3 hJ3=>?_
  ·refine jn_to (fun j=>CurOk ⟨x0.b,j.2.1,j.2.2⟩∧(j.1=true→0<v1.2.1.length)) (fun (r:Family×Int×Int)=>zbh r.1=true) (fun K hK=>?_) fun j4 hJ4=>?_
   ·exact zbz (p:=fun (r:Family×Int×Int)=>zbh r.1=true) (fun _=>hK _ ⟨zdk hI2.1 om,fun h9=>by simp only [Bool.and_eq_true,decide_eq_true_eq] at h9;omega⟩) (fun _=>hK _ ⟨hI2.1,fun h9=>by simp only [Bool.and_eq_true,decide_eq_true_eq] at h9;omega⟩)
   ·exact zbz (p:=fun (r:Family×Int×Int)=>zbh r.1=true) (fun c=>hK3 _ ⟨hJ4.1,.inr ⟨hJ4.2 c,rfl⟩⟩) (fun _=>hK3 _ ⟨hJ4.1,.inl rfl⟩)
  ·refine jn_to (fun j=>CurOk ⟨x0.b,j.2.1,j.2.2⟩∧(j.1=true→0<v1.2.1.length)) (fun (r:Family×Int×Int)=>zbh r.1=true) (fun K hK=>?_) fun j5 hJ5=>?_
   ·exact zbz (p:=fun (r:Family×Int×Int)=>zbh r.1=true) (fun _=>hK _ ⟨zdk hJ3.1 om,fun h9=>by simp only [Bool.and_eq_true,decide_eq_true_eq] at h9;omega⟩) (fun _=>hK _ ⟨hJ3.1,fun h9=>by simp only [Bool.and_eq_true,decide_eq_true_eq] at h9;omega⟩)
   ·exact zbz (p:=fun (r:Family×Int×Int)=>zbh r.1=true) (fun c=>hn2 _ ⟨hJ5.1,hI2.2.step hI1.2 om h4 om om hJ3.2 (.inr ⟨hJ5.2 c,rfl⟩)⟩) (fun _=>hn2 _ ⟨hJ5.1,hI2.2.step hI1.2 om h4 om om hJ3.2 (.inl rfl)⟩)
 ·exact hn _ ⟨hI2.1,hI2.2.done hI1.2 om h4⟩ zau
theorem zka {b:List Int} (hb:∀ y∈b,0≤y∧y≤255) (hx:b.length≤1048576):CurOk (zin b):=by
 unfold zin
 refine zcj (fun v=>(0≤v.1∧v.1≤1073741823)∧0≤v.2) (fun v=>4000 - Int.toNat v.2) (fun (r:l01Cur)=>CurOk r) (fun v next hv hn=>?_) _ _ (Nat.lt_succ_self _) zbd
 refine zbz (p:=fun (r:l01Cur)=>CurOk r) (fun c=>hn _ ?_ ?_) (fun _=>⟨hb,hx,⟨by simp only;omega,by simp only;omega⟩,by simp only [inR];omega⟩)
 ·exact ⟨zhl _ 1073741823 1073741823 rfl om,by dsimp only;omega⟩
 ·simp only [Bool.and_eq_true,decide_eq_true_eq] at c;dsimp only;omega
def C35 (R:Family):LV×List (Nat×BC):=(.agg [.own 0,.own 1],[(0,.arr 6 R.people.length (rowOf (zca true) R.people)),(1,.arr 4 R.unions.length (rowOf (zcu true) R.unions))])
def zd9 (x0:List Int) (x1:Int):Family:=((zhw (zin x0) (Max.max 0 (Min.min x1 40))).1)
def A35 (x0:List Int) (x1:Int):Ann:=.reg 2 [] [(1001,k79 6 [] x0),(1005,k78 10 [1006] (zin x0) (Max.max 0 (Min.min x1 40)))] [4] [4,1010,2010] [] [] [] [0,4] (rt [(0,some 1010),(1,some 2010)] (C35 ((zhw (zin x0) (Max.max 0 (Min.min x1 40))).1)))
theorem zj4 (x0:List Int) (x1:Int) (hx:x0.length≤1048576) (hb:∀ y∈x0,0≤y∧y≤255):FnT Try.prog 35 [.ro false 1 x0.length (rowOf (cInt .u8) x0),.int .i64 x1] (C35 (zd9 x0 x1)):=by
 have aux:∀ R,zd9 x0 x1=R→slim (C35 R) (A35 x0 x1) []:=by
  intro R hR
  refine rg ⟨⟨by trivial,by trivial⟩,⟨by (exact zka hb hx),by (intros;omega)⟩,trivial⟩ ?_
  exact congrArg C35 hR
 exact Fn.go 11 Try.func35 zax zax (by simp [C35,Frs,FrsL,FrsB,rowOf,cInt,cBool,cStr,cSl,zdj,zca,zcu,zce,cDyad,ziq]) (A35 x0 x1) zax (aux _ rfl)
def k35 (x0:List Int) (x1:Int):Cl:=(hres (C35 (zd9 x0 x1)),k2 (zj4 x0 x1))
def C36 (R:Family):LV×List (Nat×BC):=(.agg [.own 0,.own 1],[(0,.arr 6 R.people.length (rowOf (zca true) R.people)),(1,.arr 4 R.unions.length (rowOf (zcu true) R.unions))])
def zel (x0:List Int):Family:=((zjt (zin x0)).1)
def A36 (x0:List Int):Ann:=.reg 2 [] [(1001,k79 4 [] x0),(1002,k80 5 [1004] (zin x0))] [2] [2,1005,2005] [] [] [] [0,4] (rt [(0,some 1005),(1,some 2005)] (C36 ((zjt (zin x0)).1)))
theorem zku (x0:List Int) (hx:x0.length≤1048576) (hb:∀ y∈x0,0≤y∧y≤255):FnT Try.prog 36 [.ro false 1 x0.length (rowOf (cInt .u8) x0)] (C36 (zel x0)):=by
 have aux:∀ R,zel x0=R→slim (C36 R) (A36 x0) []:=by
  intro R hR
  refine rg ⟨⟨by trivial,by trivial⟩,by (exact zka hb hx),trivial⟩ ?_
  exact congrArg C36 hR
 exact Fn.go 6 Try.func36 zax zax (by simp [C36,Frs,FrsL,FrsB,rowOf,cInt,cBool,cStr,cSl,zdj,zca,zcu,zce,cDyad,ziq]) (A36 x0) zax (aux _ rfl)
def k36 (x0:List Int):Cl:=(hres (C36 (zel x0)),k2 (zku x0))
def C13 (R:Int):LV×List (Nat×BC):=(.int .i64 R,[])
def at1 (x0:List Int) (x1:Int):Int:=bif (decide (x1<((x0.length:Nat):Int))) then (x0.getD x1.toNat default) else (((x1 * 37)+(((x0.length:Nat):Int) * 11)).tmod 256)
def A13 (x0:List Int) (x1:Int):Ann:=r0 1 [0,1,4] [] (r0 1 [0,1,4,8] [] (cn (decide (x1<((x0.length:Nat):Int))) (r1 1 [0,1,4] [] [pf (0≤(x1:Int)∧(x1:Int)<((x0.length:Nat):Int)),pf (inR .i64 (x0.getD x1.toNat default))] [0,4] (rt [] (C13 (x0.getD x1.toNat default)))) (r1 1 [4] [] [pf (inR .i64 (x1 * 37)),pf (inR .i64 (((x0.length:Nat):Int) * 11)),pf (inR .i64 ((x1 * 37)+(((x0.length:Nat):Int) * 11))),pf ((256:Int)≠0)] [0,4,8,12] (rt [] (C13 (((x1 * 37)+(((x0.length:Nat):Int) * 11)).tmod 256))))))
theorem z1y {b:List Int} (hb:∀ y∈b,0≤y∧y≤255) {i:Int} (hi:0≤i):0≤at1 b i∧at1 b i≤255:=by
 unfold at1
 refine zbz (p:=fun (r:Int)=>0≤r∧r≤255) (fun _=>zhi hb _) (fun _=>?_)
 rw [Int.tmod_eq_emod_of_nonneg om]
 omega
theorem zvs (x0:List Int) (x1:Int) (hx:x0.length≤1048576) (hb:∀ y∈x0,0≤y∧y≤255) (hi:0≤x1∧x1≤1000):FnT Try.prog 13 [.ro false 1 x0.length (rowOf (cInt .u8) x0),.int .i64 x1] (C13 (at1 x0 x1)):=by
 have aux:∀ R,at1 x0 x1=R→slim (C13 R) (A13 x0 x1) []:=by
  intro R hR
  refine rg trivial ?_
  refine rg trivial ?_
  revert hR;refine cd (fun hc1 hR=>?_) fun hc1 hR=>?_
  ·
    refine rg ⟨by ((try clear hR);intros;(try simp only [decide_eq_true_eq,decide_eq_false_iff_not,Bool.or_eq_true,Bool.and_eq_true,zbr,zbo,zbq,Bool.not_eq_true',inR] at *);(repeat' apply And.intro)<;>(intros;omega)),by (have h9:=zhi hb x1.toNat;simp only [inR];omega),trivial⟩ ?_
    exact congrArg C13 hR
  ·
    refine rg ⟨by ( intros;simp only [inR];omega),by ( intros;simp only [inR];omega),by ( intros;simp only [inR];omega),by trivial,trivial⟩ ?_
    exact congrArg C13 hR
 exact Fn.go 21 Try.func13 zax zax (by simp [C13,Frs,FrsL]) (A13 x0 x1) zax (aux _ rfl)
def k13 (x0:List Int) (x1:Int):Cl:=(hres (C13 (at1 x0 x1)),k3 (zvs x0 x1))
def C15 (R:Int):LV×List (Nat×BC):=(.int .i64 R,[])
def who (x0:List Int) (x1:Int) (x2:Family):Int:=(at1 x0 x1).tmod ((x2.people.length:Nat):Int)
def A15 (x0:List Int) (x1:Int) (x2:Family):Ann:=.reg 2 [] [(1002,k13 x0 x1)] [6] [] [] [pf ((((x2.people.length:Nat):Int):Int)≠0)] [] [4,0] (rt [] (C15 ((at1 x0 x1).tmod ((x2.people.length:Nat):Int))))
theorem zwd {b:List Int} (hb:∀ y∈b,0≤y∧y≤255) {i:Int} (hi:0≤i) {x:Family} (hx:0<x.people.length):0≤who b i x∧who b i x<x.people.length:=by
 unfold who
 have h:=z1y hb hi
 rw [Int.tmod_eq_emod_of_nonneg h.1]
 exact ⟨Int.emod_nonneg _ om,Int.emod_lt_of_pos _ om⟩
theorem zsr (x0:List Int) (x1:Int) (x2:Family) (hx:x0.length≤1048576) (hb:∀ y∈x0,0≤y∧y≤255) (hi:0≤x1∧x1≤1000) (hf:0<x2.people.length∧x2.people.length≤40):FnT Try.prog 15 [.ro false 1 x0.length (rowOf (cInt .u8) x0),.int .i64 x1,.agg (zce false x2)] (C15 (who x0 x1 x2)):=by
 have aux:∀ R,who x0 x1 x2=R→slim (C15 R) (A15 x0 x1 x2) []:=by
  intro R hR
  refine rg ⟨by (intros;omega),⟨by trivial,by trivial,by trivial⟩,trivial⟩ ?_
  exact congrArg C15 hR
 exact Fn.go 14 Try.func15 zax zax (by simp [C15,Frs,FrsL]) (A15 x0 x1 x2) zax (aux _ rfl)
def k15 (x0:List Int) (x1:Int) (x2:Family):Cl:=(hres (C15 (who x0 x1 x2)),k4 (zsr x0 x1 x2))
def C11 (R:Family):LV×List (Nat×BC):=(.agg [.own 0,.own 1],[(0,.arr 6 R.people.length (rowOf (zca true) R.people)),(1,.arr 4 R.unions.length (rowOf (zcu true) R.unions))])
def crowd (x0:List Int) (x1:Int):Family:=bif (decide (((at1 x0 9).tmod 4)=0)) then (bif (decide (((((zel x0).people).length:Nat):Int)=0)) then (Family.mk [(Person.mk [97,97] 1 (-1) (-1) 0 (-1))] ((zel x0).unions)) else (zel x0)) else (bif (decide (((((zd9 x0 x1).people).length:Nat):Int)=0)) then (Family.mk [(Person.mk [97,97] 1 (-1) (-1) 0 (-1))] ((zd9 x0 x1).unions)) else (zd9 x0 x1))
def A11 (x0:List Int) (x1:Int):Ann:=.reg 2 [] [(1002,k35 x0 x1)] [0,4,5] [4,5,1008,2008] [] [] [] [0] (.reg 1 [] [(1,k13 x0 9)] [0,4,5,12] [4,5,1008,2008] [] [pf ((4:Int)≠0)] [] [4,0] (cn (decide (((at1 x0 9).tmod 4)=0)) (.reg 1 [] [(1,k36 x0)] [4,5] [4,5,1014,2014] [] [] [] [0] (r0 1 [4,5,18] [4,5,1014,2014] (cn (decide (((((zel x0).people).length:Nat):Int)=0)) (.reg 1 [] [(1,bsC 20 (zca true) ([(Person.mk [97,97] 1 (-1) (-1) 0 (-1))]:List Person))] [4,5] [4,5,20,2014] [] [] [] [0] (r0 1 [4] [4,20,2014] (rt [(0,some 20),(1,some 2014)] (C11 (Family.mk [(Person.mk [97,97] 1 (-1) (-1) 0 (-1))] ((zel x0).unions)))))) (r0 1 [4] [4,1014,2014] (rt [(0,some 1014),(1,some 2014)] (C11 (zel x0))))))) (r0 1 [4,5,18] [4,5,1008,2008] (cn (decide (((((zd9 x0 x1).people).length:Nat):Int)=0)) (.reg 1 [] [(1,bsC 20 (zca true) ([(Person.mk [97,97] 1 (-1) (-1) 0 (-1))]:List Person))] [4,5] [4,5,20,2008] [] [] [] [0] (r0 1 [4] [4,20,2008] (rt [(0,some 20),(1,some 2008)] (C11 (Family.mk [(Person.mk [97,97] 1 (-1) (-1) 0 (-1))] ((zd9 x0 x1).unions)))))) (r0 1 [4] [4,1008,2008] (rt [(0,some 1008),(1,some 2008)] (C11 (zd9 x0 x1))))))))
theorem zzq {b:List Int} (hx:b.length≤1048576) (hb:∀ y∈b,0≤y∧y≤255) (m:Int):zbh (crowd b m)=true∧0<(crowd b m).people.length:=by
 have one:∀ z:Family,zbh z=true→((z.people.length:Nat):Int)=0→zbh (Family.mk [(Person.mk [97,97] 1 (-1) (-1) 0 (-1))] z.unions)=true:=fun z hz h0=>by
  have hu:z.unions=[]:=by
   cases hu:z.unions with
   | nil=>rfl
   | cons u r =>
    have:=(fam_u hz (k:=0) (by rw [hu];simp)).man
    omega
  rw [hu]
  exact (by kernel_rfl:zbh (Family.mk [(Person.mk [97,97] 1 (-1) (-1) 0 (-1))] [])=true)
 have both:∀ z:Family,zbh z=true→∀ r:Family,(bif decide (((z.people.length:Nat):Int)=0) then (Family.mk [(Person.mk [97,97] 1 (-1) (-1) 0 (-1))] z.unions) else z)=r→zbh r=true∧0<r.people.length:=fun z hz r hr=>by
  subst hr
  exact zbz (p:=fun (r:Family)=>zbh r=true∧0<r.people.length) (fun c=>⟨one z hz (of_decide_eq_true c),by simp⟩) (fun c=>⟨hz,by have:=of_decide_eq_false c;omega⟩)
 unfold crowd
 refine zbz (p:=fun (r:Family)=>zbh r=true∧0<r.people.length) (fun _=>both (zel b) (zv0 (zka hb hx)) _ rfl) (fun _=>both (zd9 b m) (zs1 (zka hb hx) om) _ rfl)
theorem zzd {s:List UInt8} (h:zco s=true):s.length≤12:=by
 simp only [zco,zea,zbr,ze4,l1In,Bool.and_eq_true,decide_eq_true_eq,decide_eq_false_iff_not,and_true] at h
 omega
theorem zxs {x:Family} (hf:zbh x=true):∀ p∈x.people,p.name.length≤1048576:=fun p hp=>by
 obtain ⟨i,hi,e⟩:=List.getElem_of_mem hp
 have h:=zzd (fam_p hf hi).name
 rw [List.getD_eq_getElem?_getD,List.getElem?_eq_getElem hi,Option.getD_some,e] at h
 omega
theorem zfl {x:List Int} (h:x.length≤1048576∧∀ y∈x,inR .u8 y):x.length≤1048576∧∀ y∈x,0≤y∧y≤255:=⟨h.1,fun y hy=>by have:=h.2 y hy;simp only [inR] at this;omega⟩
theorem zdf {b:List Int} (h:b.length≤1048576∧∀ y∈b,inR .u8 y) (m:Int):zbh (crowd b m)=true∧(0<(crowd b m).people.length∧(crowd b m).people.length≤40)∧(crowd b m).unions.length≤60∧∀ p∈(crowd b m).people,p.name.length≤1048576:=by
 have h1:=zzq (zfl h).1 (zfl h).2 m
 have h2:=fam_n h1.1
 exact ⟨h1.1,⟨h1.2,h2.1⟩,h2.2,zxs h1.1⟩
theorem zpz (x0:List Int) (x1:Int) (hx:x0.length≤1048576) (hb:∀ y∈x0,0≤y∧y≤255) (hm:0≤x1∧x1≤40):FnT Try.prog 11 [.ro false 1 x0.length (rowOf (cInt .u8) x0),.int .i64 x1] (C11 (crowd x0 x1)):=by
 have aux:∀ R,crowd x0 x1=R→slim (C11 R) (A11 x0 x1) []:=by
  intro R hR
  refine rg ⟨⟨by trivial,by trivial⟩,trivial⟩ ?_
  refine rg ⟨by trivial,⟨by trivial,by trivial,by trivial⟩,trivial⟩ ?_
  revert hR;refine cd (fun hc1 hR=>?_) fun hc1 hR=>?_
  ·
    refine rg ⟨⟨by trivial,by trivial⟩,trivial⟩ ?_
    refine rg trivial ?_
    revert hR;refine cd (fun hc2 hR=>?_) fun hc2 hR=>?_
    ·
      refine rg ⟨trivial,trivial⟩ ?_
      refine rg trivial ?_
      exact congrArg C11 hR
    ·
      refine rg trivial ?_
      exact congrArg C11 hR
  ·
    refine rg trivial ?_
    revert hR;refine cd (fun hc3 hR=>?_) fun hc3 hR=>?_
    ·
      refine rg ⟨trivial,trivial⟩ ?_
      refine rg trivial ?_
      exact congrArg C11 hR
    ·
      refine rg trivial ?_
      exact congrArg C11 hR
 exact Fn.go 23 Try.func11 zax zax (by simp [C11,Frs,FrsL,FrsB,rowOf,cInt,cBool,cStr,cSl,zdj,zca,zcu,zce,cDyad,ziq]) (A11 x0 x1) zax (aux _ rfl)
def k11 (x0:List Int) (x1:Int):Cl:=(hres (C11 (crowd x0 x1)),k3 (zpz x0 x1))
theorem zxt {n:Nat} {p:Nat→Bool} {f:Nat→Int} {y:Int}:y∈loopN (fun i (v:List Int) next=>bif p i then next (v++[f i]) else next v) (fun v=>v) n 0 []↔∃ i,i<n∧p i=true∧y=f i:=by
 refine zcc (fun i (v:List Int)=>y∈v↔∃ k,k<i∧p k=true∧y=f k) (fun (r:List Int)=>y∈r↔∃ k,k<n∧p k=true∧y=f k) zaz (fun i v next hi hv hn=>?_) (fun v hv=>hv)
 refine zbz (p:=fun (r:List Int)=>y∈r↔∃ k,k<n∧p k=true∧y=f k) (fun c=>hn _ ?_) (fun c=>hn _ ?_)
 ·simp only [List.mem_append,List.mem_singleton,hv]
  constructor
  ·rintro (⟨k,h1,h2,h3⟩ | h)
   ·exact ⟨k,om,h2,h3⟩
   ·exact ⟨i,om,c,h⟩
  ·rintro ⟨k,h1,h2,h3⟩
   by_cases e:k=i
   ·subst e;exact .inr h3
   ·exact .inl ⟨k,om,h2,h3⟩
 ·rw [hv]
  constructor
  ·rintro ⟨k,h1,h2,h3⟩;exact ⟨k,om,h2,h3⟩
  ·rintro ⟨k,h1,h2,h3⟩
   by_cases e:k=i
   ·subst e;rw [c] at h2;cases h2
   ·exact ⟨k,om,h2,h3⟩
theorem Up.head {x:Family} {p q:Int} {n:Nat} (h:Up x p n q):(n=0∧q=p)∨∃ r m,r∈zbj x p∧n=m+1∧Up x r m q:=by
 induction h with
 | zero=>exact .inl ⟨rfl,rfl⟩
 | @step n a q h hq ih =>
  rcases ih with ⟨e1,e2⟩ | ⟨r,m,h1,h2,h3⟩
  ·subst e1;subst e2;exact .inr ⟨q,0,hq,rfl,.zero⟩
  ·exact .inr ⟨r,m+1,h1,om,.step h3 hq⟩
theorem Up.cons {x:Family} {p r q:Int} {n:Nat} (hr:r∈zbj x p) (h:Up x r n q):Up x p (n+1) q:=by
 induction h with
 | zero=>exact .step .zero hr
 | step _ hq ih=>exact .step ih hq
def Above (x:Family) (p q:Int):Prop:=∃ n,Up x p n q
theorem Above.self (x:Family) (p:Int):Above x p p:=⟨0,.zero⟩
theorem Above.cons {x:Family} {p r q:Int} (hr:r∈zbj x p):Above x r q→Above x p q:=fun ⟨n,h⟩=>⟨n+1,h.cons hr⟩
theorem Above.head {x:Family} {p q:Int}:Above x p q→q=p∨∃ r,r∈zbj x p∧Above x r q:=fun ⟨n,h⟩=>by
 rcases h.head with ⟨_,e⟩ | ⟨r,m,h1,_,h3⟩
 ·exact .inl e
 ·exact .inr ⟨r,h1,m,h3⟩
theorem ziu {x:Family} (hf:zbh x=true) {p:Int} (hp:0≤p∧p<x.people.length) {q:Int} (hq:0≤q∧q<x.people.length):0≤(l8Up x p).getD q.toNat default↔Above x p q:=by
 have hd:=znf x p (zcb x hf) hp
 have hq2:q.toNat<x.people.length:=by omega
 constructor
 ·intro h
  have:=(hd.yes q.toNat hq2 h).1
  rw [show ((q.toNat:Nat):Int)=q by omega] at this
  exact ⟨_,this⟩
 ·rintro ⟨n,h⟩
  rcases Int.lt_or_le ((l8Up x p).getD q.toNat default) 0 with c | c
  ·exact absurd (show Up x p n ((q.toNat:Nat):Int) by rw [show ((q.toNat:Nat):Int)=q by omega];exact h) ((hd.no q.toNat hq2 c).2 n)
  ·exact c
theorem Above.rng {x:Family} (hf:zbh x=true) {p:Int} (hp:0≤p∧p<x.people.length) {q:Int}:Above x p q→0≤q∧q<x.people.length∧q≤p:=fun ⟨n,h⟩=>by
 have:=h.rng (zcb x hf) hp;omega
theorem zrs {x:Family} (hf:zbh x=true) {a b:Int} (ha:0≤a∧a<x.people.length) (hb:0≤b∧b<x.people.length) (q:Int):q∈zbk x a b↔Above x a q∧Above x b q:=by
 unfold zbk
 rw [zxt (f:=fun i=>((i:Nat):Int))]
 have hl:(l8Up x a).length=x.people.length:=(znf x a (zcb x hf) ha).len
 simp only [Bool.and_eq_true,decide_eq_true_eq]
 constructor
 ·rintro ⟨i,h1,⟨h2,h3⟩,rfl⟩
  have hi:i<x.people.length:=by omega
  exact ⟨(ziu hf ha (q:=(i:Int)) ⟨om,om⟩).1 (by simpa using h2),(ziu hf hb (q:=(i:Int)) ⟨om,om⟩).1 (by simpa using h3)⟩
 ·rintro ⟨h1,h2⟩
  have h3:=h1.rng hf ha
  exact ⟨q.toNat,om,⟨(ziu hf ha ⟨h3.1,h3.2.1⟩).2 h1,(ziu hf hb ⟨h3.1,h3.2.1⟩).2 h2⟩,om⟩
end Go.Proofs.Ytaageiiodlfeiaa
