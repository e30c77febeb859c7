import Derived.Test.YtaageiiodlfeiaaGreatV32
set_option maxHeartbeats 4000000
set_option linter.unusedSimpArgs false
set_option linter.unusedVariables false
namespace Go.Proofs.YtaageiiodlfeiaaGreat
open Go Go.Lite Go.Proofs
structure kin where
 f:Family
 seen:KV→Option Int
 deriving Inhabited

def C48 (x0:kin) (x1:Int) (x2:Int) (R:Int×(KV→Option Int)):LV×List (Nat×BC):=(.int .i64 R.1,[(900001,.mp .pair (.i R.2)),(900000,.var [.ro false 6 x0.f.people.length (rowOf (zbq false) x0.f.people),.ro false 4 x0.f.unions.length (rowOf (zb4 false) x0.f.unions),.mp 900001])])
def zbr : Nat → kin → Int → Int → Int × (KV → Option Int)
  | 0,_,_,_=>default
  | m+1,x0,x1,x2=>bif (decide (x1<x2)) then (bif ((x0.seen (KV.p x2 x1)).isSome) then ((x0.seen (KV.p x2 x1)).getD 0,x0.seen) else (bif (decide (x2=x1)) then (bif ((decide (0≤((x0.f.people.getD x2.toNat default).father)))&&(decide (0≤((x0.f.people.getD x2.toNat default).mother)))) then (549755813888+(((zbr m x0 ((x0.f.people.getD x2.toNat default).father) ((x0.f.people.getD x2.toNat default).mother)).1).tdiv 2),mset ((zbr m x0 ((x0.f.people.getD x2.toNat default).father) ((x0.f.people.getD x2.toNat default).mother)).2) (KV.p x2 x1) (549755813888+(((zbr m x0 ((x0.f.people.getD x2.toNat default).father) ((x0.f.people.getD x2.toNat default).mother)).1).tdiv 2))) else (549755813888,mset x0.seen (KV.p x2 x1) 549755813888)) else (loopN (fun i1 (v1:Int×(KV→Option Int)) next=>next (v1.1+(((zbr m (kin.mk x0.f v1.2) ((zbh x0.f x2).getD i1 default) x1).1).tdiv 2),(zbr m (kin.mk x0.f v1.2) ((zbh x0.f x2).getD i1 default) x1).2)) (fun (v1:Int×(KV→Option Int))=>(v1.1,mset v1.2 (KV.p x2 x1) v1.1)) ((zbh x0.f x2).length) 0 (0,x0.seen)))) else (bif ((x0.seen (KV.p x1 x2)).isSome) then ((x0.seen (KV.p x1 x2)).getD 0,x0.seen) else (bif (decide (x1=x2)) then (bif ((decide (0≤((x0.f.people.getD x1.toNat default).father)))&&(decide (0≤((x0.f.people.getD x1.toNat default).mother)))) then (549755813888+(((zbr m x0 ((x0.f.people.getD x1.toNat default).father) ((x0.f.people.getD x1.toNat default).mother)).1).tdiv 2),mset ((zbr m x0 ((x0.f.people.getD x1.toNat default).father) ((x0.f.people.getD x1.toNat default).mother)).2) (KV.p x1 x2) (549755813888+(((zbr m x0 ((x0.f.people.getD x1.toNat default).father) ((x0.f.people.getD x1.toNat default).mother)).1).tdiv 2))) else (549755813888,mset x0.seen (KV.p x1 x2) 549755813888)) else (loopN (fun i2 (v2:Int×(KV→Option Int)) next=>next (v2.1+(((zbr m (kin.mk x0.f v2.2) ((zbh x0.f x1).getD i2 default) x2).1).tdiv 2),(zbr m (kin.mk x0.f v2.2) ((zbh x0.f x1).getD i2 default) x2).2)) (fun (v2:Int×(KV→Option Int))=>(v2.1,mset v2.2 (KV.p x1 x2) v2.1)) ((zbh x0.f x1).length) 0 (0,x0.seen))))
def zig (x0:kin) (x1:Int) (x2:Int):Int×(KV→Option Int):=zbr 100 x0 x1 x2
def kr48 (m d:Nat) (ids:List Nat) (x0:kin) (x1:Int) (x2:Int):Cl:=(hresM d ids (C48 x0 x1 x2 (zbr m x0 x1 x2)),pf (FnMT Tryz.prog 48 [.vp 900000 0,.int .i64 x1,.int .i64 x2] [.var [.ro false 6 x0.f.people.length (rowOf (zbq false) x0.f.people),.ro false 4 x0.f.unions.length (rowOf (zb4 false) x0.f.unions),.mp 900001],.mp .pair (.i x0.seen)] (C48 x0 x1 x2 (zbr m x0 x1 x2))))
def D48b1 (m:Nat) (x0:kin) (x1:Int) (x2:Int) (i1:Nat) (v1:Int×(KV→Option Int)):Dl:=⟨[(66,.int .i64 ((i1:Nat):Int)),(10,.int .i64 v1.1)],[(900001,.mp .pair (.i v1.2)),(900000,.var [.ro false 6 x0.f.people.length (rowOf (zbq false) x0.f.people),.ro false 4 x0.f.unions.length (rowOf (zb4 false) x0.f.unions),.mp 900001])]⟩
def A48b1 (m:Nat) (x0:kin) (x1:Int) (x2:Int) (i1:Nat) (v1:Int×(KV→Option Int)):Ann:=r0 1 [0,1,2,6,10,64,65,66,67] [1064,900000,900001] (cn (decide (((i1:Nat):Int)<(((zbh x0.f x2).length:Nat):Int))) (r1 1 [0,1,2,6,10,12,64,65,66] [1064,900000,900001] [pf (0≤(((i1:Nat):Int):Int)∧(((i1:Nat):Int):Int)<(((zbh x0.f x2).length:Nat):Int))] [0] (.reg 1 [] [(4,kr48 m 74 [900000,900001] (kin.mk x0.f v1.2) ((zbh x0.f x2).getD i1 default) x1)] [0,1,2,6,10,64,65,66] [1064,900000,900001] [] [pf ((2:Int)≠0),pf (inR .i64 (((zbr m (kin.mk x0.f v1.2) ((zbh x0.f x2).getD i1 default) x1).1).tdiv 2)),pf (inR .i64 (v1.1+(((zbr m (kin.mk x0.f v1.2) ((zbh x0.f x2).getD i1 default) x1).1).tdiv 2)))] [] [12,0,4,8] (r1 1 [0,1,2,6,10,64,65,66] [1064,900000,900001] [pf (inR .i64 (((i1:Nat):Int)+1))] [0] (.next 0 [(900001,some 900001)] (D48b1 m x0 x1 x2 (i1+1) (v1.1+(((zbr m (kin.mk x0.f v1.2) ((zbh x0.f x2).getD i1 default) x1).1).tdiv 2),(zbr m (kin.mk x0.f v1.2) ((zbh x0.f x2).getD i1 default) x1).2)))))) (r0 2 [6] [900000,900001] (rt [(900001,some 900001),(900000,some 900000)] (C48 x0 x1 x2 (v1.1,mset v1.2 (KV.p x2 x1) v1.1)))))
def D48b2 (m:Nat) (x0:kin) (x1:Int) (x2:Int) (i2:Nat) (v2:Int×(KV→Option Int)):Dl:=⟨[(66,.int .i64 ((i2:Nat):Int)),(10,.int .i64 v2.1)],[(900001,.mp .pair (.i v2.2)),(900000,.var [.ro false 6 x0.f.people.length (rowOf (zbq false) x0.f.people),.ro false 4 x0.f.unions.length (rowOf (zb4 false) x0.f.unions),.mp 900001])]⟩
def A48b2 (m:Nat) (x0:kin) (x1:Int) (x2:Int) (i2:Nat) (v2:Int×(KV→Option Int)):Ann:=r0 1 [0,1,2,6,10,64,65,66,67] [1064,900000,900001] (cn (decide (((i2:Nat):Int)<(((zbh x0.f x1).length:Nat):Int))) (r1 1 [0,1,2,6,10,12,64,65,66] [1064,900000,900001] [pf (0≤(((i2:Nat):Int):Int)∧(((i2:Nat):Int):Int)<(((zbh x0.f x1).length:Nat):Int))] [0] (.reg 1 [] [(4,kr48 m 74 [900000,900001] (kin.mk x0.f v2.2) ((zbh x0.f x1).getD i2 default) x2)] [0,1,2,6,10,64,65,66] [1064,900000,900001] [] [pf ((2:Int)≠0),pf (inR .i64 (((zbr m (kin.mk x0.f v2.2) ((zbh x0.f x1).getD i2 default) x2).1).tdiv 2)),pf (inR .i64 (v2.1+(((zbr m (kin.mk x0.f v2.2) ((zbh x0.f x1).getD i2 default) x2).1).tdiv 2)))] [] [12,0,4,8] (r1 1 [0,1,2,6,10,64,65,66] [1064,900000,900001] [pf (inR .i64 (((i2:Nat):Int)+1))] [0] (.next 0 [(900001,some 900001)] (D48b2 m x0 x1 x2 (i2+1) (v2.1+(((zbr m (kin.mk x0.f v2.2) ((zbh x0.f x1).getD i2 default) x2).1).tdiv 2),(zbr m (kin.mk x0.f v2.2) ((zbh x0.f x1).getD i2 default) x2).2)))))) (r0 2 [6] [900000,900001] (rt [(900001,some 900001),(900000,some 900000)] (C48 x0 x1 x2 (v2.1,mset v2.2 (KV.p x1 x2) v2.1)))))
def A48 (m:Nat) (x0:kin) (x1:Int) (x2:Int):Ann:=r0 1 [0,1,2,6] [900000,900001] (r0 1 [0,1,2,6,15] [900000,900001] (cn (decide (x1<x2)) (r0 1 [0,1,2,6] [900000,900001] (r0 2 [0,1,2,6,7,29] [900000,900001] (cn ((x0.seen (KV.p x2 x1)).isSome) (r0 1 [0,1,2,6] [900000,900001] (rt [(900001,some 900001),(900000,some 900000)] (C48 x0 x1 x2 ((x0.seen (KV.p x2 x1)).getD 0,x0.seen)))) (r1 2 [0,1,2,6,9,10] [9,900000,900001] [pf (0≤(x2:Int)∧(x2:Int)<((x0.f.people.length:Nat):Int))] [0] (r0 1 [0,1,2,6,9,10,41] [9,900000,900001] (cn (decide (x2=x1)) (.reg 2 [] [] [0,1,2,6,9,10,49] [9,900000,900001] [decide (0≤((x0.f.people.getD x2.toNat default).father))] [] [] [1,1,1] (cn ((decide (0≤((x0.f.people.getD x2.toNat default).father)))&&(decide (0≤((x0.f.people.getD x2.toNat default).mother)))) (.reg 1 [] [(6,kr48 m 56 [900000,900001] x0 ((x0.f.people.getD x2.toNat default).father) ((x0.f.people.getD x2.toNat default).mother))] [0,1,2,6,10] [900000,900001] [] [pf ((2:Int)≠0),pf (inR .i64 (((zbr m x0 ((x0.f.people.getD x2.toNat default).father) ((x0.f.people.getD x2.toNat default).mother)).1).tdiv 2)),pf (inR .i64 (549755813888+(((zbr m x0 ((x0.f.people.getD x2.toNat default).father) ((x0.f.people.getD x2.toNat default).mother)).1).tdiv 2)))] [] [12,0,4,8] (r0 2 [6] [900000,900001] (rt [(900001,some 900001),(900000,some 900000)] (C48 x0 x1 x2 (549755813888+(((zbr m x0 ((x0.f.people.getD x2.toNat default).father) ((x0.f.people.getD x2.toNat default).mother)).1).tdiv 2),mset ((zbr m x0 ((x0.f.people.getD x2.toNat default).father) ((x0.f.people.getD x2.toNat default).mother)).2) (KV.p x2 x1) (549755813888+(((zbr m x0 ((x0.f.people.getD x2.toNat default).father) ((x0.f.people.getD x2.toNat default).mother)).1).tdiv 2))))))) (r0 2 [6] [900000,900001] (rt [(900001,some 900001),(900000,some 900000)] (C48 x0 x1 x2 (549755813888,mset x0.seen (KV.p x2 x1) 549755813888)))))) (.reg 1 [] [(5,k93 x0.f x2)] [0,1,2,6,10,64,65,66] [1064,900000,900001] [] [] [] [0] (lp (D48b1 m x0 x1 x2) [] [] [(900001,some 900001)] (D48b1 m x0 x1 x2 0 (0,x0.seen)) (A48b1 m x0 x1 x2))))))))) (r0 2 [0,1,2,6,7,29] [900000,900001] (cn ((x0.seen (KV.p x1 x2)).isSome) (r0 1 [0,1,2,6] [900000,900001] (rt [(900001,some 900001),(900000,some 900000)] (C48 x0 x1 x2 ((x0.seen (KV.p x1 x2)).getD 0,x0.seen)))) (r1 2 [0,1,2,6,9,10] [9,900000,900001] [pf (0≤(x1:Int)∧(x1:Int)<((x0.f.people.length:Nat):Int))] [0] (r0 1 [0,1,2,6,9,10,41] [9,900000,900001] (cn (decide (x1=x2)) (.reg 2 [] [] [0,1,2,6,9,10,49] [9,900000,900001] [decide (0≤((x0.f.people.getD x1.toNat default).father))] [] [] [1,1,1] (cn ((decide (0≤((x0.f.people.getD x1.toNat default).father)))&&(decide (0≤((x0.f.people.getD x1.toNat default).mother)))) (.reg 1 [] [(6,kr48 m 56 [900000,900001] x0 ((x0.f.people.getD x1.toNat default).father) ((x0.f.people.getD x1.toNat default).mother))] [0,1,2,6,10] [900000,900001] [] [pf ((2:Int)≠0),pf (inR .i64 (((zbr m x0 ((x0.f.people.getD x1.toNat default).father) ((x0.f.people.getD x1.toNat default).mother)).1).tdiv 2)),pf (inR .i64 (549755813888+(((zbr m x0 ((x0.f.people.getD x1.toNat default).father) ((x0.f.people.getD x1.toNat default).mother)).1).tdiv 2)))] [] [12,0,4,8] (r0 2 [6] [900000,900001] (rt [(900001,some 900001),(900000,some 900000)] (C48 x0 x1 x2 (549755813888+(((zbr m x0 ((x0.f.people.getD x1.toNat default).father) ((x0.f.people.getD x1.toNat default).mother)).1).tdiv 2),mset ((zbr m x0 ((x0.f.people.getD x1.toNat default).father) ((x0.f.people.getD x1.toNat default).mother)).2) (KV.p x1 x2) (549755813888+(((zbr m x0 ((x0.f.people.getD x1.toNat default).father) ((x0.f.people.getD x1.toNat default).mother)).1).tdiv 2))))))) (r0 2 [6] [900000,900001] (rt [(900001,some 900001),(900000,some 900000)] (C48 x0 x1 x2 (549755813888,mset x0.seen (KV.p x1 x2) 549755813888)))))) (.reg 1 [] [(5,k93 x0.f x1)] [0,1,2,6,10,64,65,66] [1064,900000,900001] [] [] [] [0] (lp (D48b2 m x0 x1 x2) [] [] [(900001,some 900001)] (D48b2 m x0 x1 x2 0 (0,x0.seen)) (A48b2 m x0 x1 x2))))))))))
theorem zy0 {x : Family} (hf : za4 x = true) {p : Int} (hp : 0 ≤ p ∧ p < x.people.length) (hc : (decide (0 ≤ (x.people.getD p.toNat default).father) && decide (0 ≤ (x.people.getD p.toNat default).mother)) = true) :
    (0≤(x.people.getD p.toNat default).father∧(x.people.getD p.toNat default).father<p)∧0≤(x.people.getD p.toNat default).mother∧(x.people.getD p.toNat default).mother<p:=by
 simp only [Bool.and_eq_true,decide_eq_true_eq] at hc
 have h1:=zhd hf hp (q:=(x.people.getD p.toNat default).father) ⟨hc.1,.inl rfl⟩
 have h2:=zhd hf hp (q:=(x.people.getD p.toNat default).mother) ⟨hc.2,.inr rfl⟩
 omega
def BtwOk (m:Nat):Prop:=∀ (k:kin) (a b:Int),za4 k.f=true→(0≤a∧a<k.f.people.length)→(0≤b∧b<k.f.people.length)→a+b<m→SeenOk k.f k.seen→(zbr m k a b).1=kn k.f a b∧SeenOk k.f (zbr m k a b).2
theorem zfg {m : Nat} (IH : BtwOk m) {x : Family} (hf : za4 x = true) {s : KV → Option Int} (hS : SeenOk x s) {a b : Int} (ha : 0 ≤ a ∧ a < x.people.length) (hb : 0 ≤ b ∧ b < a) (hm : a + b < m + 1) {i : Nat} (hi : i < (zbh x a).length) :
    (0≤(zbh x a).getD i default∧(zbh x a).getD i default<a)∧((zbr m ⟨x,s⟩ ((zbh x a).getD i default) b).1=kn x ((zbh x a).getD i default) b∧SeenOk x (zbr m ⟨x,s⟩ ((zbh x a).getD i default) b).2)∧(0≤kn x ((zbh x a).getD i default) b∧kn x ((zbh x a).getD i default) b≤1099511627776):=by
 have h1:=zhd hf ha ((zc1 x a).2 i hi)
 have h0:=((zc1 x a).2 i hi).1
 exact ⟨⟨h0,h1.1⟩,IH ⟨x,s⟩ _ b hf ⟨h0,by simp only;omega⟩ ⟨hb.1,by simp only;omega⟩ om hS,(zp4 hf ⟨h0,om⟩ ⟨hb.1,om⟩).1⟩
theorem zrz {m : Nat} (IH : BtwOk m) {k : kin} (hf : za4 k.f = true) (hS : SeenOk k.f k.seen) {a : Int} (ha : 0 ≤ a ∧ a < k.f.people.length) (hm : a + a < m + 1) (hc : (decide (0 ≤ (k.f.people.getD a.toNat default).father) && decide (0 ≤ (k.f.people.getD a.toNat default).mother)) = true) :
    ((0≤(k.f.people.getD a.toNat default).father∧(k.f.people.getD a.toNat default).father<a)∧0≤(k.f.people.getD a.toNat default).mother∧(k.f.people.getD a.toNat default).mother<a)∧(0≤(zbr m k (k.f.people.getD a.toNat default).father (k.f.people.getD a.toNat default).mother).1∧(zbr m k (k.f.people.getD a.toNat default).father (k.f.people.getD a.toNat default).mother).1≤1099511627776) ∧
    549755813888+(zbr m k (k.f.people.getD a.toNat default).father (k.f.people.getD a.toNat default).mother).1.tdiv 2=kn k.f a a∧SeenOk k.f (zbr m k (k.f.people.getD a.toNat default).father (k.f.people.getD a.toNat default).mother).2:=by
 have h1:=zy0 hf ha hc
 have h2:=IH k (k.f.people.getD a.toNat default).father (k.f.people.getD a.toNat default).mother hf om om om hS
 have h3:=zp4 hf (a:=(k.f.people.getD a.toNat default).father) (b:=(k.f.people.getD a.toNat default).mother) om om
 refine ⟨h1,om,?_,h2.2⟩
 rw [h2.1,Int.tdiv_eq_ediv_of_nonneg h3.1.1,zrr hf ha,hc,cond_true]
theorem zur {m : Nat} (IH : BtwOk m) {x : Family} (hf : za4 x = true) {s : KV → Option Int} (hS : SeenOk x s) {a b : Int} (ha : 0 ≤ a ∧ a < x.people.length) (hb : 0 ≤ b ∧ b < a) (hm : a + b < m + 1) {i : Nat} (hi : i < (zbh x a).length) {v : Int}
    (hv:v=sumTo (fun k=>kn x ((zbe x a).getD k default) b / 2) i):v+(zbr m ⟨x,s⟩ ((zbh x a).getD i default) b).1.tdiv 2=sumTo (fun k=>kn x ((zbe x a).getD k default) b / 2) (i+1):=by
 have h1:=zfg IH hf hS ha hb hm hi
 rw [h1.2.1.1,Int.tdiv_eq_ediv_of_nonneg h1.2.2.1,hv,zfu];rfl
theorem zvq {m : Nat} (IH : BtwOk m) {k : kin} (hf : za4 k.f = true) (hS : SeenOk k.f k.seen) {a b : Int} (ha : 0 ≤ a ∧ a < k.f.people.length) (hb : 0 ≤ b ∧ b ≤ a) (hm : a + b < m + 1) {E : Int × (KV → Option Int)}
    (hE:E=(bif ((k.seen (KV.p a b)).isSome) then ((k.seen (KV.p a b)).getD 0,k.seen) else (bif (decide (a=b)) then (bif ((decide (0≤((k.f.people.getD a.toNat default).father)))&&(decide (0≤((k.f.people.getD a.toNat default).mother)))) then (549755813888+(((zbr m k ((k.f.people.getD a.toNat default).father) ((k.f.people.getD a.toNat default).mother)).1).tdiv 2),mset ((zbr m k ((k.f.people.getD a.toNat default).father) ((k.f.people.getD a.toNat default).mother)).2) (KV.p a b) (549755813888+(((zbr m k ((k.f.people.getD a.toNat default).father) ((k.f.people.getD a.toNat default).mother)).1).tdiv 2))) else (549755813888,mset k.seen (KV.p a b) 549755813888)) else (loopN (fun i1 (v1:Int×(KV→Option Int)) next=>next (v1.1+(((zbr m (kin.mk k.f v1.2) ((zbh k.f a).getD i1 default) b).1).tdiv 2),(zbr m (kin.mk k.f v1.2) ((zbh k.f a).getD i1 default) b).2)) (fun (v1:Int×(KV→Option Int))=>(v1.1,mset v1.2 (KV.p a b) v1.1)) ((zbh k.f a).length) 0 (0,k.seen))))) :
    E.1=kn k.f a b∧SeenOk k.f E.2:=by
 subst hE
 cases h1:(k.seen (KV.p a b)).isSome
 ·simp only [cond_false]
  cases h2:decide (a=b)
  ·have h2:=of_decide_eq_false h2
   simp only [cond_false]
   refine zb3 (fun i (v:Int×(KV→Option Int))=>v.1=sumTo (fun j=>kn k.f ((zbe k.f a).getD j default) b / 2) i∧SeenOk k.f v.2) (fun (E:Int×(KV→Option Int))=>E.1=kn k.f a b∧SeenOk k.f E.2) ⟨rfl,hS⟩ (fun i v next hi hv hn=>?_) (fun v hv=>?_)
   ·exact hn _ ⟨zur IH hf hv.2 ha ⟨hb.1,om⟩ hm hi hv.1,(zfg IH hf hv.2 ha ⟨hb.1,om⟩ hm hi).2.1.2⟩
   ·have e:v.1=kn k.f a b:=by rw [hv.1,kn_lt hf ha ⟨hb.1,om⟩,zfu]
    exact ⟨e,hv.2.set e⟩
  ·have h2:=of_decide_eq_true h2
   subst h2
   simp only [cond_true]
   cases h3:(decide (0≤(k.f.people.getD a.toNat default).father)&&decide (0≤(k.f.people.getD a.toNat default).mother))
   ·have e:(549755813888:Int)=kn k.f a a:=by rw [zrr hf ha,h3,cond_false,Int.add_zero]
    exact ⟨e,hS.set e⟩
   ·have h4:=zrz IH hf hS ha hm h3
    exact ⟨h4.2.2.1,h4.2.2.2.set h4.2.2.1⟩
 ·exact ⟨hS.hit h1,hS⟩
theorem zey : ∀ m, BtwOk m
  | 0=>fun k a b _ ha hb hm _=>by omega
  | m+1=>fun k a b hf ha hb hm hS=>by
    rw [zbr]
    cases h1:decide (a<b)
    · have h1:=of_decide_eq_false h1
      exact zvq (zey m) hf hS ha ⟨hb.1,om⟩ om rfl
    · have h1:=of_decide_eq_true h1
      rw [zic]
      exact zvq (zey m) hf hS hb ⟨ha.1,om⟩ om rfl

theorem ziy (x0:kin) (x1:Int) (x2:Int) (hf:za4 x0.f=true) (ha:0≤x1∧x1<x0.f.people.length) (hb:0≤x2∧x2<x0.f.people.length) (hS:SeenOk x0.f x0.seen):FnMT Tryz.prog 48 [.vp 900000 0,.int .i64 x1,.int .i64 x2] [.var [.ro false 6 x0.f.people.length (rowOf (zbq false) x0.f.people),.ro false 4 x0.f.unions.length (rowOf (zb4 false) x0.f.unions),.mp 900001],.mp .pair (.i x0.seen)] (C48 x0 x1 x2 (zig x0 x1 x2)):=by
 have all:∀ (m:Nat) (x0:kin) (x1:Int) (x2:Int) (hf:za4 x0.f=true) (ha:0≤x1∧x1<x0.f.people.length) (hb:0≤x2∧x2<x0.f.people.length) (hS:SeenOk x0.f x0.seen) (hm:(x1+x2).toNat<m),FnMT Tryz.prog 48 [.vp 900000 0,.int .i64 x1,.int .i64 x2] [.var [.ro false 6 x0.f.people.length (rowOf (zbq false) x0.f.people),.ro false 4 x0.f.unions.length (rowOf (zb4 false) x0.f.unions),.mp 900001],.mp .pair (.i x0.seen)] (C48 x0 x1 x2 (zbr m x0 x1 x2)):=by
  intro m;induction m
  ·intros;exact absurd za3 (Nat.not_lt_zero _)
  rename_i m ih
  intro x0 x1 x2 hf ha hb hS hm
  have aux:∀ R,zbr (m+1) x0 x1 x2=R→slim (C48 x0 x1 x2 R) (A48 m x0 x1 x2) []:=by
   intro R hR
   rw [zbr] at hR
   refine rg trivial ?_
   refine rg trivial ?_
   revert hR;refine cd (fun hc1 hR=>?_) fun hc1 hR=>?_
   ·
     refine rg trivial ?_
     refine rg trivial ?_
     revert hR;refine cd (fun hc2 hR=>?_) fun hc2 hR=>?_
     ·
       refine rg trivial ?_
       exact congrArg (C48 x0 x1 x2) hR
     ·
       refine rg ⟨by trivial,trivial⟩ ?_
       refine rg trivial ?_
       revert hR;refine cd (fun hc3 hR=>?_) fun hc3 hR=>?_
       ·
         refine rg trivial ?_
         revert hR;refine cd (fun hc4 hR=>?_) fun hc4 hR=>?_
         ·
           refine rg ⟨by trivial,by (exfalso;have h7:=of_decide_eq_true hc3;have h6:=of_decide_eq_true hc1;omega),by (exfalso;have h7:=of_decide_eq_true hc3;have h6:=of_decide_eq_true hc1;omega),ih x0 ((x0.f.people.getD x2.toNat default).father) ((x0.f.people.getD x2.toNat default).mother) zai zal zal zai zal,trivial⟩ ?_
           refine rg trivial ?_
           exact congrArg (C48 x0 x1 x2) hR
         ·
           refine rg trivial ?_
           exact congrArg (C48 x0 x1 x2) hR
       ·
         refine rg ⟨⟨by (have h4:=((zch _).1 hf).1;omega),by trivial⟩,trivial⟩ ?_
         have hp1:=zc1 x0.f x2
         revert hR;refine lN (fun i v=>v.1=sumTo (fun k=>kn x0.f ((zbe x0.f x2).getD k default) x1 / 2) i∧SeenOk x0.f v.2) zai rfl fun i1 v1 F1 hn1 hI1 hR hK1=>?_
         refine rg trivial ?_
         refine ⟨fun hc5=>?_,fun hc5=>?_⟩
         · have hii1:i1<(zbh x0.f x2).length:=by have:=of_decide_eq_true hc5;omega
           replace hR:=zbj hR hii1
           refine rg ⟨by (intros;omega),trivial⟩ ?_
           refine rg ⟨by trivial,by (have h6:=of_decide_eq_true hc1;have h9:=zfg (zey m) hf hI1.2 hb ⟨ha.1,h6⟩ om hii1;have h3:=sumR hf hb ⟨ha.1,h6⟩ (n:=i1) zau;rw [← hI1.1] at h3;have h2:=Int.tdiv_eq_ediv_of_nonneg (a:=(zbr m (kin.mk x0.f v1.2) ((zbh x0.f x2).getD i1 default) x1).1) (b:=2) om;simp only [inR];omega),by (have h6:=of_decide_eq_true hc1;have h9:=zfg (zey m) hf hI1.2 hb ⟨ha.1,h6⟩ om hii1;have h3:=sumR hf hb ⟨ha.1,h6⟩ (n:=i1) zau;rw [← hI1.1] at h3;have h2:=Int.tdiv_eq_ediv_of_nonneg (a:=(zbr m (kin.mk x0.f v1.2) ((zbh x0.f x2).getD i1 default) x1).1) (b:=2) om;simp only [inR];omega),ih (kin.mk x0.f v1.2) ((zbh x0.f x2).getD i1 default) x1 zai (by (have h6:=of_decide_eq_true hc1;have h9:=zfg (zey m) hf hI1.2 hb ⟨ha.1,h6⟩ om hii1;have h3:=sumR hf hb ⟨ha.1,h6⟩ (n:=i1) zau;rw [← hI1.1] at h3;have h2:=Int.tdiv_eq_ediv_of_nonneg (a:=(zbr m (kin.mk x0.f v1.2) ((zbh x0.f x2).getD i1 default) x1).1) (b:=2) om;simp only [inR];omega)) zai (by (have h6:=of_decide_eq_true hc1;have h9:=zfg (zey m) hf hI1.2 hb ⟨ha.1,h6⟩ om hii1;exact hI1.2)) (by (have h6:=of_decide_eq_true hc1;have h9:=zfg (zey m) hf hI1.2 hb ⟨ha.1,h6⟩ om hii1;omega)),trivial⟩ ?_
           refine rg ⟨by ( intros;simp only [inR];omega),trivial⟩ ?_
           exact hK1 (v1.1+(((zbr m (kin.mk x0.f v1.2) ((zbh x0.f x2).getD i1 default) x1).1).tdiv 2),(zbr m (kin.mk x0.f v1.2) ((zbh x0.f x2).getD i1 default) x1).2) hii1 (by (have h6:=of_decide_eq_true hc1;exact ⟨zur (zey m) hf hI1.2 hb ⟨ha.1,h6⟩ om hii1 hI1.1,(zfg (zey m) hf hI1.2 hb ⟨ha.1,h6⟩ om hii1).2.1.2⟩)) hR
         · obtain rfl:i1=(zbh x0.f x2).length:=by have:=of_decide_eq_false hc5;omega
           replace hR:=zbp hR (Nat.lt_irrefl _)
           refine rg trivial ?_
           exact congrArg (C48 x0 x1 x2) hR
   ·
     refine rg trivial ?_
     revert hR;refine cd (fun hc6 hR=>?_) fun hc6 hR=>?_
     ·
       refine rg trivial ?_
       exact congrArg (C48 x0 x1 x2) hR
     ·
       refine rg ⟨by trivial,trivial⟩ ?_
       refine rg trivial ?_
       revert hR;refine cd (fun hc7 hR=>?_) fun hc7 hR=>?_
       ·
         refine rg trivial ?_
         revert hR;refine cd (fun hc8 hR=>?_) fun hc8 hR=>?_
         ·
           refine rg ⟨by trivial,by (have h7:=of_decide_eq_true hc7;have h9:=zrz (zey m) hf hS ha om hc8;have h2:=Int.tdiv_eq_ediv_of_nonneg (a:=(zbr m x0 (x0.f.people.getD x1.toNat default).father (x0.f.people.getD x1.toNat default).mother).1) (b:=2) h9.2.1.1;simp only [inR];omega),by (have h7:=of_decide_eq_true hc7;have h9:=zrz (zey m) hf hS ha om hc8;have h2:=Int.tdiv_eq_ediv_of_nonneg (a:=(zbr m x0 (x0.f.people.getD x1.toNat default).father (x0.f.people.getD x1.toNat default).mother).1) (b:=2) h9.2.1.1;simp only [inR];omega),ih x0 ((x0.f.people.getD x1.toNat default).father) ((x0.f.people.getD x1.toNat default).mother) zai zak zak zai zak,trivial⟩ ?_
           refine rg trivial ?_
           exact congrArg (C48 x0 x1 x2) hR
         ·
           refine rg trivial ?_
           exact congrArg (C48 x0 x1 x2) hR
       ·
         refine rg ⟨⟨by (have h4:=((zch _).1 hf).1;omega),by trivial⟩,trivial⟩ ?_
         have hp2:=zc1 x0.f x1
         revert hR;refine lN (fun i v=>v.1=sumTo (fun k=>kn x0.f ((zbe x0.f x1).getD k default) x2 / 2) i∧SeenOk x0.f v.2) zai rfl fun i2 v2 F2 hn2 hI2 hR hK2=>?_
         refine rg trivial ?_
         refine ⟨fun hc9=>?_,fun hc9=>?_⟩
         · have hii2:i2<(zbh x0.f x1).length:=by have:=of_decide_eq_true hc9;omega
           replace hR:=zbj hR hii2
           refine rg ⟨by (intros;omega),trivial⟩ ?_
           refine rg ⟨by trivial,by (have h6:=of_decide_eq_false hc1;have h5:=of_decide_eq_false hc7;have h9:=zfg (zey m) hf hI2.2 ha ⟨hb.1,om⟩ om hii2;have h3:=sumR hf ha ⟨hb.1,om⟩ (n:=i2) zau;rw [← hI2.1] at h3;have h2:=Int.tdiv_eq_ediv_of_nonneg (a:=(zbr m (kin.mk x0.f v2.2) ((zbh x0.f x1).getD i2 default) x2).1) (b:=2) om;simp only [inR];omega),by (have h6:=of_decide_eq_false hc1;have h5:=of_decide_eq_false hc7;have h9:=zfg (zey m) hf hI2.2 ha ⟨hb.1,om⟩ om hii2;have h3:=sumR hf ha ⟨hb.1,om⟩ (n:=i2) zau;rw [← hI2.1] at h3;have h2:=Int.tdiv_eq_ediv_of_nonneg (a:=(zbr m (kin.mk x0.f v2.2) ((zbh x0.f x1).getD i2 default) x2).1) (b:=2) om;simp only [inR];omega),ih (kin.mk x0.f v2.2) ((zbh x0.f x1).getD i2 default) x2 zai (by (have h6:=of_decide_eq_false hc1;have h5:=of_decide_eq_false hc7;have h9:=zfg (zey m) hf hI2.2 ha ⟨hb.1,om⟩ om hii2;have h3:=sumR hf ha ⟨hb.1,om⟩ (n:=i2) zau;rw [← hI2.1] at h3;have h2:=Int.tdiv_eq_ediv_of_nonneg (a:=(zbr m (kin.mk x0.f v2.2) ((zbh x0.f x1).getD i2 default) x2).1) (b:=2) om;simp only [inR];omega)) zai (by (have h6:=of_decide_eq_false hc1;have h5:=of_decide_eq_false hc7;have h9:=zfg (zey m) hf hI2.2 ha ⟨hb.1,om⟩ om hii2;exact hI2.2)) (by (have h6:=of_decide_eq_false hc1;have h5:=of_decide_eq_false hc7;have h9:=zfg (zey m) hf hI2.2 ha ⟨hb.1,om⟩ om hii2;omega)),trivial⟩ ?_
           refine rg ⟨by ( intros;simp only [inR];omega),trivial⟩ ?_
           exact hK2 (v2.1+(((zbr m (kin.mk x0.f v2.2) ((zbh x0.f x1).getD i2 default) x2).1).tdiv 2),(zbr m (kin.mk x0.f v2.2) ((zbh x0.f x1).getD i2 default) x2).2) hii2 (by (have h6:=of_decide_eq_false hc1;have h5:=of_decide_eq_false hc7;exact ⟨zur (zey m) hf hI2.2 ha ⟨hb.1,om⟩ om hii2 hI2.1,(zfg (zey m) hf hI2.2 ha ⟨hb.1,om⟩ om hii2).2.1.2⟩)) hR
         · obtain rfl:i2=(zbh x0.f x1).length:=by have:=of_decide_eq_false hc9;omega
           replace hR:=zbp hR (Nat.lt_irrefl _)
           refine rg trivial ?_
           exact congrArg (C48 x0 x1 x2) hR
  exact FnM.go 87 Tryz.func48 zah zah (A48 m x0 x1 x2) zah (aux _ rfl)
 exact all 100 x0 x1 x2 hf ha hb hS (by have h:=((zch _).1 hf).1.1;omega)
def k48 (d:Nat) (ids:List Nat) (x0:kin) (x1:Int) (x2:Int):Cl:=(hresM d ids (C48 x0 x1 x2 (zig x0 x1 x2)),k4 (ziy x0 x1 x2))
end Go.Proofs.YtaageiiodlfeiaaGreat
