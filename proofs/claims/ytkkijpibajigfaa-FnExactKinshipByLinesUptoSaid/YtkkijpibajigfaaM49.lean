import Derived.Test.YtkkijpibajigfaaV33
set_option maxHeartbeats 4000000
set_option linter.unusedSimpArgs false
set_option linter.unusedVariables false
namespace Go.Proofs.Ytkkijpibajigfaa
open Go Go.Lite Go.Proofs
def C76 (x0:kin) (x1:Int) (R:Int×(KV→Option Int)):LV×List (Nat×BC):=(.int .i64 R.1,[(900001,.mp .pair (.i R.2)),(900000,.var [.ro false 6 x0.f.people.length (rowOf (cPerson false) x0.f.people),.ro false 4 x0.f.unions.length (rowOf (cUnion false) x0.f.unions),.mp 900001])])
def kinInbreeding (x0:kin) (x1:Int):Int×(KV→Option Int):=bif ((decide (((x0.f.people.getD x1.toNat default).father)<0)) || (decide (((x0.f.people.getD x1.toNat default).mother)<0))) then (0,x0.seen) else ((between x0 ((x0.f.people.getD x1.toNat default).father) ((x0.f.people.getD x1.toNat default).mother)).1,(between x0 ((x0.f.people.getD x1.toNat default).father) ((x0.f.people.getD x1.toNat default).mother)).2)
def A76 (x0:kin) (x1:Int):Ann:=r1 2 [0,4,5] [5,900000,900001] [pf (0≤(x1:Int)∧(x1:Int)<((x0.f.people.length:Nat):Int))] [0] (.reg 1 [] [] [0,4,5,21] [5,900000,900001] [!(decide (((x0.f.people.getD x1.toNat default).father)<0)),decide (((x0.f.people.getD x1.toNat default).father)<0)] [] [] [1,1,6] (cn ((decide (((x0.f.people.getD x1.toNat default).father)<0)) || (decide (((x0.f.people.getD x1.toNat default).mother)<0))) (r0 1 [0,4,5] [5,900000,900001] (rt [(900001,some 900001),(900000,some 900000)] (C76 x0 x1 (0,x0.seen)))) (.reg 1 [] [(5,k114 27 [900000,900001] x0 ((x0.f.people.getD x1.toNat default).father) ((x0.f.people.getD x1.toNat default).mother))] [4] [900000,900001] [] [] [] [0] (rt [(900001,some 900001),(900000,some 900000)] (C76 x0 x1 ((between x0 ((x0.f.people.getD x1.toNat default).father) ((x0.f.people.getD x1.toNat default).mother)).1,(between x0 ((x0.f.people.getD x1.toNat default).father) ((x0.f.people.getD x1.toNat default).mother)).2))))))
theorem ok_impl_kin__inbreeding (x0:kin) (x1:Int) (hf:specIsFamily x0.f=true) (ha:0≤x1∧x1<x0.f.people.length) (hS:SeenOk x0.f x0.seen):FnMT Try.prog 76 [.vp 900000 0,.int .i64 x1] [.var [.ro false 6 x0.f.people.length (rowOf (cPerson false) x0.f.people),.ro false 4 x0.f.unions.length (rowOf (cUnion false) x0.f.unions),.mp 900001],.mp .pair (.i x0.seen)] (C76 x0 x1 (kinInbreeding x0 x1)):=by
 have aux:∀ R,kinInbreeding x0 x1=R→slim (C76 x0 x1 R) (A76 x0 x1) []:=by
  intro R hR
  refine rg ⟨by trivial,trivial⟩ ?_
  refine rg trivial ?_
  revert hR;refine cd (fun hc1 hR=>?_) fun hc1 hR=>?_
  ·
    refine rg trivial ?_
    exact congrArg (C76 x0 x1) hR
  ·
    refine rg ⟨⟨by trivial,by (have h8:=two_par hf ha hc1;omega),by (have h8:=two_par hf ha hc1;omega),by trivial⟩,trivial⟩ ?_
    exact congrArg (C76 x0 x1) hR
 exact FnM.go 28 Try.func76 (by kernel_rfl) (by kernel_rfl) (A76 x0 x1) (by kernel_rfl) (aux _ rfl)
def k76 (d:Nat) (ids:List Nat) (x0:kin) (x1:Int):Cl:=(hresM d ids (C76 x0 x1 (kinInbreeding x0 x1)),k3 (ok_impl_kin__inbreeding x0 x1))
theorem fLoop_mem {n:Nat} {p:Nat→Bool} {f:Nat→Int} {y:Int}:y ∈ loopN (fun i (v:List Int) next=>bif p i then next (v++[f i]) else next v) (fun v=>v) n 0 [] ↔ ∃ i,i<n∧p i=true∧y=f i:=by
 refine loopN_to (fun i (v:List Int)=>y ∈ v ↔ ∃ k,k<i∧p k=true∧y=f k) (fun (r:List Int)=>y ∈ r ↔ ∃ k,k<n∧p k=true∧y=f k) (by simp) (fun i v next hi hv hn=>?_) (fun v hv=>hv)
 refine cond_both (p:=fun (r:List Int)=>y ∈ r ↔ ∃ k,k<n∧p k=true∧y=f k) (fun c=>hn _ ?_) (fun c=>hn _ ?_)
 ·simp only [List.mem_append,List.mem_singleton,hv]
  constructor
  ·rintro (⟨k,h1,h2,h3⟩ | h)
   ·exact ⟨k,by omega,h2,h3⟩
   ·exact ⟨i,by omega,c,h⟩
  ·rintro ⟨k,h1,h2,h3⟩
   by_cases e:k=i
   ·subst e;exact .inr h3
   ·exact .inl ⟨k,by omega,h2,h3⟩
 ·rw [hv]
  constructor
  ·rintro ⟨k,h1,h2,h3⟩;exact ⟨k,by omega,h2,h3⟩
  ·rintro ⟨k,h1,h2,h3⟩
   by_cases e:k=i
   ·subst e;rw [c] at h2;cases h2
   ·exact ⟨k,by omega,h2,h3⟩
theorem Up.head {x:Family} {p q:Int} {n:Nat} (h:Up x p n q):(n=0∧q=p) ∨ ∃ r m,r ∈ l1Parents x p∧n=m+1∧Up x r m q:=by
 induction h with
 | zero=>exact .inl ⟨rfl,rfl⟩
 | @step n a q h hq ih =>
  rcases ih with ⟨e1,e2⟩ | ⟨r,m,h1,h2,h3⟩
  ·subst e1;subst e2;exact .inr ⟨q,0,hq,rfl,.zero⟩
  ·exact .inr ⟨r,m+1,h1,by omega,.step h3 hq⟩
theorem Up.cons {x:Family} {p r q:Int} {n:Nat} (hr:r ∈ l1Parents x p) (h:Up x r n q):Up x p (n+1) q:=by
 induction h with
 | zero=>exact .step .zero hr
 | step _ hq ih=>exact .step ih hq
def Above (x:Family) (p q:Int):Prop:=∃ n,Up x p n q
theorem Above.self (x:Family) (p:Int):Above x p p:=⟨0,.zero⟩
theorem Above.cons {x:Family} {p r q:Int} (hr:r ∈ l1Parents x p):Above x r q→Above x p q:=fun ⟨n,h⟩=>⟨n+1,h.cons hr⟩
theorem Above.head {x:Family} {p q:Int}:Above x p q→q=p ∨ ∃ r,r ∈ l1Parents x p∧Above x r q:=fun ⟨n,h⟩=>by
 rcases h.head with ⟨_,e⟩ | ⟨r,m,h1,_,h3⟩
 ·exact .inl e
 ·exact .inr ⟨r,h1,m,h3⟩
theorem above_iff {x:Family} (hf:specIsFamily x=true) {p:Int} (hp:0≤p∧p<x.people.length) {q:Int} (hq:0≤q∧q<x.people.length):0≤(l8Up x p).getD q.toNat default ↔ Above x p q:=by
 have hd:=l8Up_dist x p (isFamily_par x hf) hp
 have hq2:q.toNat<x.people.length:=by omega
 constructor
 ·intro h
  have:=(hd.yes q.toNat hq2 h).1
  rw [show ((q.toNat:Nat):Int)=q by omega] at this
  exact ⟨_,this⟩
 ·rintro ⟨n,h⟩
  rcases Int.lt_or_le ((l8Up x p).getD q.toNat default) 0 with c | c
  ·exact absurd (show Up x p n ((q.toNat:Nat):Int) by rw [show ((q.toNat:Nat):Int)=q by omega];exact h) ((hd.no q.toNat hq2 c).2 n)
  ·exact c
theorem Above.rng {x:Family} (hf:specIsFamily x=true) {p:Int} (hp:0≤p∧p<x.people.length) {q:Int}:Above x p q→0≤q∧q<x.people.length∧q≤p:=fun ⟨n,h⟩=>by
 have:=h.rng (isFamily_par x hf) hp;omega
theorem l8Common_iff {x:Family} (hf:specIsFamily x=true) {a b:Int} (ha:0≤a∧a<x.people.length) (hb:0≤b∧b<x.people.length) (q:Int):q ∈ l8Common x a b ↔ Above x a q∧Above x b q:=by
 unfold l8Common
 rw [fLoop_mem (f:=fun i=>((i:Nat):Int))]
 have hl:(l8Up x a).length=x.people.length:=(l8Up_dist x a (isFamily_par x hf) ha).len
 simp only [Bool.and_eq_true,decide_eq_true_eq]
 constructor
 ·rintro ⟨i,h1,⟨h2,h3⟩,rfl⟩
  have hi:i<x.people.length:=by omega
  exact ⟨(above_iff hf ha (q:=(i:Int)) ⟨by omega,by omega⟩).1 (by simpa using h2),(above_iff hf hb (q:=(i:Int)) ⟨by omega,by omega⟩).1 (by simpa using h3)⟩
 ·rintro ⟨h1,h2⟩
  have h3:=h1.rng hf ha
  exact ⟨q.toNat,by omega,⟨(above_iff hf ha ⟨h3.1,h3.2.1⟩).2 h1,(above_iff hf hb ⟨h3.1,h3.2.1⟩).2 h2⟩,by omega⟩
end Go.Proofs.Ytkkijpibajigfaa
