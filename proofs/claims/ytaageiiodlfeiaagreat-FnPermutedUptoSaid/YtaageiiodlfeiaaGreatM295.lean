import Derived.Test.YtaageiiodlfeiaaGreatM292
set_option maxHeartbeats 4000000
set_option linter.unusedSimpArgs false
set_option linter.unusedVariables false
namespace Go.Proofs.YtaageiiodlfeiaaGreat
open Go Go.Lite Go.Proofs
structure CdOk (x:Family) (a b:Int) (r:Int×Bool):Prop where
 no:r.2=false→r=(0,false)∧∀ q:Int,0≤q→q<x.people.length→¬ (0≤(zbg x a).getD q.toNat default∧0≤(zbg x b).getD q.toNat default)
 yes : r.2 = true → (∃ q : Int, 0 ≤ q ∧ q < x.people.length ∧ 0 ≤ (zbg x a).getD q.toNat default ∧ 0 ≤ (zbg x b).getD q.toNat default ∧ r.1 = max ((zbg x a).getD q.toNat default) ((zbg x b).getD q.toNat default)) ∧
   ∀ q:Int,0≤q→q<x.people.length→0≤(zbg x a).getD q.toNat default→0≤(zbg x b).getD q.toNat default→r.1≤max ((zbg x a).getD q.toNat default) ((zbg x b).getD q.toNat default)
theorem zvp (x:Family) (a b:Int):CdOk x a b (zck x a b):=by
 unfold zck
 refine zb3 (fun i (v : Int × Bool) => (v.2 = false → i = 0 ∧ v = (0, false)) ∧ (v.2 = true → (∃ j : Nat, j < i ∧ v.1 = max ((zbg x a).getD ((za5 x a b).getD j default).toNat default) ((zbg x b).getD ((za5 x a b).getD j default).toNat default)) ∧
     ∀ j:Nat,j<i→v.1≤max ((zbg x a).getD ((za5 x a b).getD j default).toNat default) ((zbg x b).getD ((za5 x a b).getD j default).toNat default))) (CdOk x a b) ⟨fun _=>⟨rfl,rfl⟩,fun h=>nomatch h⟩ (fun i v next hi hv hn=>?_) (fun v hv=>?_)
 ·refine zbm (p:=CdOk x a b) (fun c=>?_) (fun c=>?_)
  ·refine hn (_,true) ⟨(fun h=>nomatch h),fun _=>⟨⟨i,om,rfl⟩,fun j hj=>?_⟩⟩
   by_cases e:j=i
   ·subst e;exact Int.le_refl _
   ·cases hf:v.2 with
    | false=>have:=(hv.1 hf).1;omega
    | true =>
     have h1:=(hv.2 hf).2 j om
     rw [hf] at c
     simp only [Bool.not_true,Bool.false_or,decide_eq_true_eq] at c
     exact Int.le_trans (Int.le_of_lt c) h1
  ·simp only [zbd,za9,decide_eq_false_iff_not] at c
   refine hn (v.1,v.2) ⟨fun h=>?_,fun _=>?_⟩
   ·have h:v.2=false:=h
    rw [c.1] at h;cases h
   ·obtain ⟨⟨j,h1,h2⟩,h3⟩:=hv.2 c.1
    refine ⟨⟨j,om,h2⟩,fun j hj=>?_⟩
    by_cases e:j=i
    ·subst e;exact Int.not_lt.1 c.2
    ·exact h3 j om
 ·refine ⟨fun h=>?_,fun h=>?_⟩
  ·have h:v.2=false:=h
   obtain ⟨h1,h2⟩:=hv.1 h
   refine ⟨by rw [h2],fun q h3 h4 h5=>?_⟩
   have:=(zf7 x a b q).2 ⟨⟨h3,h4⟩,h5⟩
   rw [List.length_eq_zero_iff.1 h1] at this
   exact absurd this List.not_mem_nil
  ·have h:v.2=true:=h
   obtain ⟨⟨j,h1,h2⟩,h4⟩:=hv.2 h
   have hm:=(zf7 x a b _).1 (zb0 (d:=default) h1)
   refine ⟨⟨_,hm.1.1,hm.1.2,hm.2.1,hm.2.2,h2⟩,fun q q1 q2 q3 q4=>?_⟩
   obtain ⟨k,hk,e⟩:=zdk (d:=default) ((zf7 x a b q).2 ⟨⟨q1,q2⟩,q3,q4⟩)
   rw [← e];exact h4 k hk
section
variable {x g:Family} {o:List Int}
theorem Moved.canon (h:Moved x g o) {p q:Int} (hp:0≤p∧p<x.people.length) (hq:0≤q∧q<x.people.length):zck x (oo o p) (oo o q)=zck g p q:=by
 have L:=zvp x (oo o p) (oo o q)
 have G:=zvp g p q
 generalize zck x (oo o p) (oo o q)=r at L ⊢
 generalize zck g p q=s at G ⊢
 have tr:∀ z:Int,0≤z→z<x.people.length→(zbg g p).getD z.toNat default=(zbg x (oo o p)).getD (oo o z).toNat default∧(zbg g q).getD z.toNat default=(zbg x (oo o q)).getD (oo o z).toNat default:=fun z h0 h1=>⟨h.ups hp ⟨h0,h1⟩,h.ups hq ⟨h0,h1⟩⟩
 have gno:=G.no
 have gyes:=G.yes
 rw [h.pl] at gno gyes
 obtain ⟨r1,r2⟩:=r
 obtain ⟨s1,s2⟩:=s
 cases r2<;>cases s2
 ·rw [(L.no rfl).1,(gno rfl).1]
 ·obtain ⟨⟨z,h1,h2,h3,h4,_⟩,_⟩:=gyes rfl
  have t:=tr z h1 h2
  have r:=h.rng ⟨h1,h2⟩
  exact absurd ⟨by rw [← t.1];exact h3,by rw [← t.2];exact h4⟩ ((L.no rfl).2 _ r.1 r.2)
 ·obtain ⟨⟨z,h1,h2,h3,h4,_⟩,_⟩:=L.yes rfl
  obtain ⟨w,hw,e⟩:=h.sur ⟨h1,h2⟩
  subst e
  have t:=tr w hw.1 hw.2
  exact absurd ⟨by rw [t.1];exact h3,by rw [t.2];exact h4⟩ ((gno rfl).2 _ hw.1 hw.2)
 ·obtain ⟨⟨z,h1,h2,h3,h4,h5⟩,h7⟩:=gyes rfl
  obtain ⟨⟨y,k1,k2,k3,k4,k5⟩,k7⟩:=L.yes rfl
  obtain ⟨w,hw,e⟩:=h.sur ⟨k1,k2⟩
  subst e
  have tz:=tr z h1 h2
  have tw:=tr w hw.1 hw.2
  have rz:=h.rng ⟨h1,h2⟩
  have a1:=h7 w hw.1 hw.2 (by rw [tw.1];exact k3) (by rw [tw.2];exact k4)
  have a2:=k7 (oo o z) rz.1 rz.2 (by rw [← tz.1];exact h3) (by rw [← tz.2];exact h4)
  rw [tw.1,tw.2] at a1
  rw [← tz.1,← tz.2] at a2
  dsimp only at h5 k5 a1 a2
  rw [← k5] at a1
  rw [← h5] at a2
  have:r1=s1:=by omega
  rw [this]
theorem Moved.upk (h:Moved x g o) {p:Int} (hp:0≤p∧p<x.people.length) (s:Int):Kp x.people.length o (up g p s) (up x (oo o p) s):=by
 unfold up
 cases decide (s=1) with
 | true=>exact h.fa p hp.1 hp.2
 | false=>exact h.mo p hp.1 hp.2
theorem zlw {x : Family} (hx : za4 x = true) (s : Int) : ∀ (m m' : Nat) (v : Int), (0 ≤ v ∧ v < x.people.length) → (v + 1).toNat < m → (v + 1).toNat < m' → loopW (fun (v1 : Int) next => bif (decide (0 ≤ (up x v1 s))) then (next (up x v1 s)) else v1) m v = loopW (fun (v1 : Int) next => bif (decide (0 ≤ (up x v1 s))) then (next (up x v1 s)) else v1) m' v
  | 0,m',v,hv,h1,h2=>by omega
  | m+1,0,v,hv,h1,h2=>by omega
  | m+1,m'+1,v,hv,h1,h2=>by
    simp only [loopW]
    cases c:decide (0≤up x v s) with
    | false=>rfl
    | true =>
      have c:=of_decide_eq_true c
      have lt:=zbn x hx v.toNat om
      have ul:up x v s<v:=by
        unfold up
        cases decide (s=1) with
        | true=>show (x.people.getD v.toNat default).father<v;omega
        | false=>show (x.people.getD v.toNat default).mother<v;omega
      exact zlw hx s m m' _ ⟨c,om⟩ om om
theorem zlv {x:Family} (hx:za4 x=true) (s:Int) {v:Int} (hv:0≤v∧v<x.people.length):zct x v s=bif decide (0≤up x v s) then zct x (up x v s) s else v:=by
 have e:zct x v s=loopW (fun (v1:Int) next=>bif (decide (0≤(up x v1 s))) then (next (up x v1 s)) else v1) ((v+1).toNat+1) v:=rfl
 rw [e,loopW]
 cases c:decide (0≤up x v s) with
 | false=>rfl
 | true =>
  have c:=of_decide_eq_true c
  have lt:=zbn x hx v.toNat om
  have ul:up x v s<v:=by
   unfold up
   cases decide (s=1) with
   | true=>show (x.people.getD v.toNat default).father<v;omega
   | false=>show (x.people.getD v.toNat default).mother<v;omega
  exact zlw hx s _ _ _ ⟨c,om⟩ om om
theorem Moved.fdr (h : Moved x g o) (s : Int) : ∀ (m : Nat) (p : Int), (0 ≤ p ∧ p < x.people.length) → p < m → (0 ≤ zct g p s ∧ zct g p s < x.people.length) ∧ zct x (oo o p) s = oo o (zct g p s)
  | 0,p,hp,hm=>by omega
  | m+1,p,hp,hm=>by
    have gp:0≤p∧p<(g.people.length:Int):=by rw [h.pl];exact hp
    have k:=h.upk hp s
    rw [zlv h.hg s gp,zlv h.hx s (h.rng hp),zlu k]
    cases c:decide (0≤up g p s) with
    | false=>exact ⟨hp,rfl⟩
    | true =>
      have kv:=zj9 k c
      have lt:=zbn g h.hg p.toNat om
      have ul:up g p s<p:=by
        unfold up
        cases decide (s=1) with
        | true=>show (g.people.getD p.toNat default).father<p;omega
        | false=>show (g.people.getD p.toNat default).mother<p;omega
      rw [← kv.1]
      exact h.fdr s m _ kv.2 om
theorem Moved.fnd (h:Moved x g o) {p q:Int} (hp:0≤p∧p<x.people.length) (hq:0≤q∧q<x.people.length) (s:Int):decide (zct x (oo o p) s=zct x (oo o q) s)=decide (zct g p s=zct g q s):=by
 have a:=h.fdr s (p.toNat+1) p hp om
 have b:=h.fdr s (q.toNat+1) q hq om
 rw [a.2,b.2,decide_eq_decide]
 exact ⟨fun e=>h.inj a.1 b.1 e,fun e=>by rw [e]⟩
theorem Moved.line (h:Moved x g o) {p q:Int} (hp:0≤p∧p<x.people.length) (hq:0≤q∧q<x.people.length) (s:Int):zfq x (oo o p) (oo o q) s=zfq g p q s:=by
 unfold zfq
 rw [(zdz x _ _).2 ⟨h.hx,h.rng hp,h.rng hq⟩,(zdz g _ _).2 ⟨h.hg,by rw [h.pl];exact hp,by rw [h.pl];exact hq⟩,h.fnd hp hq]
theorem Moved.dec (h:Moved x g o) {p q:Int} (hp:0≤p∧p<x.people.length) (hq:0≤q∧q<x.people.length):decide (oo o p=oo o q)=decide (p=q):=by
 rw [decide_eq_decide]
 exact ⟨fun e=>h.inj hp hq e,fun e=>by rw [e]⟩
theorem Moved.oth (h:Moved x g o) {k:Nat} (hk:k<x.unions.length) {p:Int} (hp:0≤p∧p<x.people.length):Kp x.people.length o (other (g.unions.getD k default) p) (other (x.unions.getD k default) (oo o p)):=by
 have m:=h.man k hk
 have w:=h.wom k hk
 have um:=fam_u h.hx hk
 unfold other
 rw [← m.2,← w.2,h.dec hp m.1,h.dec hp w.1]
 cases decide (p=(g.unions.getD k default).man) with
 | true=>exact .inl ⟨w.1.1,w.1.2,(h.rng w.1).1,rfl⟩
 | false =>
  cases decide (p=(g.unions.getD k default).woman) with
  | true=>exact .inl ⟨m.1.1,m.1.2,(h.rng m.1).1,rfl⟩
  | false=>exact .inr ⟨(show (-1:Int)<0 by decide),(show (-1:Int)<0 by decide)⟩
theorem Kp.eqd (h:Moved x g o) {a b q:Int} (k:Kp x.people.length o a b) (hq:0≤q∧q<x.people.length):decide (b=oo o q)=decide (a=q):=by
 have r:=h.rng hq
 rcases k with ⟨h1,h2,h3,h4⟩ | ⟨h1,h2⟩
 ·rw [← h4];exact h.dec ⟨h1,h2⟩ hq
 ·rw [decide_eq_false om,decide_eq_false om]
theorem Moved.uend (h:Moved x g o) {k:Nat} (hk:k<x.unions.length):zdp g (g.unions.getD k default)=zdp x (x.unions.getD k default):=by
 have m:=h.man k hk
 have w:=h.wom k hk
 unfold zdp
 rw [h.to k hk,h.died _ m.1.1 m.1.2,h.died _ w.1.1 w.1.2,m.2,w.2]
theorem Moved.married (h:Moved x g o) {p:Int} (hp:0≤p∧p<x.people.length) (y:Int):(zdt x (oo o p) y).length=(zdt g p y).length:=by
 unfold zdt
 rw [h.ul]
 refine zd1 (fun _ (v u:List Int)=>v.length=u.length) (fun (a b:List Int)=>a.length=b.length) rfl (fun i v u n1 n2 hi hv hn=>?_) (fun v u hv=>hv)
 have k:=h.oth hi hp
 have e1:decide (other (x.unions.getD i default) (oo o p)<0)=decide (other (g.unions.getD i default) p<0):=by
  rw [decide_eq_decide]
  rcases k with k | k<;>omega
 rw [e1,h.uend hi,h.frm i hi]
 cases (decide (other (g.unions.getD i default) p<0))||(decide (y<(x.unions.getD i default).from0)) with
 | true=>exact hn _ _ hv
 | false =>
  cases (!((zdp x (x.unions.getD i default)).2))||(decide (y<((zdp x (x.unions.getD i default)).1))) with
  | true=>exact hn _ _ (by rw [List.length_append,List.length_append,hv];rfl)
  | false=>exact hn _ _ hv
theorem Moved.close (h:Moved x g o) {p q:Int} (hp:0≤p∧p<x.people.length) (hq:0≤q∧q<x.people.length) (d:Int):zer x (oo o p) (oo o q) d=zer g p q d:=by
 unfold zer;rw [h.link hp hq]
theorem Moved.affine (h:Moved x g o) {p q:Int} (hp:0≤p∧p<x.people.length) (hq:0≤q∧q<x.people.length) (l:Law) (y:Int):zdl x l (oo o p) (oo o q) y=zdl g l p q y:=by
 unfold zdl
 rw [h.ul]
 refine zd1 (fun _ (_ _:Unit)=>True) Eq trivial (fun i v u n1 n2 hi _ hn=>?_) (fun _ _ _=>rfl)
 have k:=h.oth hi hp
 rw [h.frm i hi,zlu k,Kp.eqd h k hq]
 cases c:decide (0≤other (g.unions.getD i default) p) with
 | false=>simp only [Bool.and_false,Bool.false_and,cond_false];exact hn () () trivial
 | true =>
  have kv:=zj9 k c
  rw [← kv.1,h.close kv.2 hq,hn () () trivial]
theorem Moved.anc (h:Moved x g o) {p q:Int} (hp:0≤p∧p<x.people.length) (hq:0≤q∧q<x.people.length):zcp x (oo o p) (oo o q)=zcp g p q:=by
 unfold zcp;rw [h.ups hq hp]
theorem Moved.lacks (h:Moved x g o) {p:Int} (hp:0≤p∧p<x.people.length) (y:Int):zc9 (x.people.getD (oo o p).toNat default) y=zc9 (g.people.getD p.toNat default) y:=by
 unfold zc9;rw [h.born p hp.1 hp.2,h.died p hp.1 hp.2]
theorem Moved.imp (h:Moved x g o) {p q:Int} (hp:0≤p∧p<x.people.length) (hq:0≤q∧q<x.people.length) (l:Law) (y:Int):zd3 x l (oo o p) (oo o q) y=zd3 g l p q y:=by
 unfold zd3
 rw [(zdz x _ _).2 ⟨h.hx,h.rng hp,h.rng hq⟩,(zdz g _ _).2 ⟨h.hg,by rw [h.pl];exact hp,by rw [h.pl];exact hq⟩]
 have e:zdy x l (oo o p) (oo o q) y=zdy g l p q y:=by
  unfold zdy
  rw [h.ul,← h.sex p hp.1 hp.2,← h.sex q hq.1 hq.2,← h.born p hp.1 hp.2,← h.born q hq.1 hq.2,h.lacks hp,h.lacks hq,h.married hp,h.married hq,h.dec hp hq,h.anc hp hq,h.anc hq hp,h.close hp hq,h.canon hp hq,h.fnd hp hq,h.fnd hp hq,h.affine hp hq,h.affine hq hp]
  refine zd1 (fun _ (a b:Bool)=>a=b) Eq rfl (fun i v u n1 n2 hi hv hn=>?_) (fun v u hv=>by rw [hv])
  refine hn _ _ ?_
  rw [hv,Kp.eqd h (h.oth hi hp) hq]
 rw [e]
end
theorem zsg (x:Family) (s:Step) (a b:Int):(zen x s (KV.p a b)).getD false=true↔(s.kind=7∧∃ k:Nat,k<x.unions.length∧(x.unions.getD k default).woman=a∧(x.unions.getD k default).man=b)∨(s.kind=8∧∃ k:Nat,k<x.unions.length∧(x.unions.getD k default).man=a∧(x.unions.getD k default).woman=b):=by
 unfold zen
 refine zb3 (fun i (v:KV→Option Bool)=>(v (KV.p a b)).getD false=true↔(s.kind=7∧∃ k:Nat,k<i∧(x.unions.getD k default).woman=a∧(x.unions.getD k default).man=b)∨(s.kind=8∧∃ k:Nat,k<i∧(x.unions.getD k default).man=a∧(x.unions.getD k default).woman=b)) (fun (v:KV→Option Bool)=>(v (KV.p a b)).getD false=true↔(s.kind=7∧∃ k:Nat,k<x.unions.length∧(x.unions.getD k default).woman=a∧(x.unions.getD k default).man=b)∨(s.kind=8∧∃ k:Nat,k<x.unions.length∧(x.unions.getD k default).man=a∧(x.unions.getD k default).woman=b)) ⟨fun h=>(nomatch h),fun h=>?_⟩ (fun i v next hi hv hn=>?_) (fun v hv=>hv)
 ·rcases h with ⟨_,k,hk,_⟩ | ⟨_,k,hk,_⟩<;>exact absurd hk (Nat.not_lt_zero _)
 ·have at_i:∀ (p:Nat→Prop),(∃ k:Nat,k<i+1∧p k)↔(∃ k:Nat,k<i∧p k)∨p i:=fun p=>by
   constructor
   ·rintro ⟨k,h1,h2⟩
    by_cases e:k=i
    ·subst e;exact .inr h2
    ·exact .inl ⟨k,om,h2⟩
   ·rintro (⟨k,h1,h2⟩ | h)
    ·exact ⟨k,om,h2⟩
    ·exact ⟨i,om,h⟩
  have ms:∀ c d:Int,((mset v (KV.p c d) true) (KV.p a b)).getD false=true↔(c=a∧d=b)∨(v (KV.p a b)).getD false=true:=fun c d=>by
   unfold mset
   by_cases e:KV.p a b=KV.p c d
   ·rw [if_pos e]
    injection e with e1 e2
    exact ⟨fun _=>.inl ⟨e1.symm,e2.symm⟩,fun _=>rfl⟩
   ·rw [if_neg e]
    exact ⟨.inr,fun h=>h.elim (fun h=>absurd (by rw [h.1,h.2]) e) id⟩
  refine zbm (p:=fun (v:KV→Option Bool)=>(v (KV.p a b)).getD false=true↔(s.kind=7∧∃ k:Nat,k<x.unions.length∧(x.unions.getD k default).woman=a∧(x.unions.getD k default).man=b)∨(s.kind=8∧∃ k:Nat,k<x.unions.length∧(x.unions.getD k default).man=a∧(x.unions.getD k default).woman=b)) (fun c1=>hn _ ?_) (fun c1=>zbm (p:=fun (v:KV→Option Bool)=>(v (KV.p a b)).getD false=true↔(s.kind=7∧∃ k:Nat,k<x.unions.length∧(x.unions.getD k default).woman=a∧(x.unions.getD k default).man=b)∨(s.kind=8∧∃ k:Nat,k<x.unions.length∧(x.unions.getD k default).man=a∧(x.unions.getD k default).woman=b)) (fun c2=>hn _ ?_) (fun c2=>hn _ ?_))
  ·have c1:=of_decide_eq_true c1
   rw [ms,hv,at_i,at_i]
   constructor
   ·rintro (h | ⟨h1,h2⟩ | ⟨h1,h2⟩)
    ·exact .inl ⟨c1,.inr h⟩
    ·exact .inl ⟨h1,.inl h2⟩
    ·exact .inr ⟨h1,.inl h2⟩
   ·rintro (⟨h1,h2 | h2⟩ | ⟨h1,h2⟩)
    ·exact .inr (.inl ⟨h1,h2⟩)
    ·exact .inl h2
    ·omega
  ·have c2:=of_decide_eq_true c2
   rw [ms,hv,at_i,at_i]
   constructor
   ·rintro (h | ⟨h1,h2⟩ | ⟨h1,h2⟩)
    ·exact .inr ⟨c2,.inr h⟩
    ·exact .inl ⟨h1,.inl h2⟩
    ·exact .inr ⟨h1,.inl h2⟩
   ·rintro (⟨h1,h2⟩ | ⟨h1,h2 | h2⟩)
    ·omega
    ·exact .inr (.inr ⟨h1,h2⟩)
    ·exact .inl h2
  ·have c1:=of_decide_eq_false c1
   have c2:=of_decide_eq_false c2
   rw [hv]
   simp only [c1,c2,false_and]
section
variable {x g:Family} {o:List Int}
theorem Kp.two (h:Moved x g o) {a b c d:Int} (k:Kp x.people.length o a b) (l:Kp x.people.length o c d) (ha:decide (0≤a)=true):decide (b=d)=decide (a=c):=by
 have kv:=zj9 k ha
 rcases l with ⟨h1,h2,h3,h4⟩ | ⟨h1,h2⟩
 ·rw [← kv.1,← h4];exact h.dec kv.2 ⟨h1,h2⟩
 ·have:=(h.rng kv.2).1
  rw [← kv.1,decide_eq_false om,decide_eq_false om]
theorem Moved.full (h:Moved x g o) {p q:Int} (hp:0≤p∧p<x.people.length) (hq:0≤q∧q<x.people.length):zcw x (oo o p) (oo o q)=zcw g p q:=by
 have f:=h.fa p hp.1 hp.2
 have m:=h.mo p hp.1 hp.2
 unfold zcw
 rw [h.dec hp hq,zlu f,zlu m]
 cases c1:decide (0≤(g.people.getD p.toNat default).father) with
 | false=>simp only [Bool.and_false,Bool.false_and]
 | true =>
  cases c2:decide (0≤(g.people.getD p.toNat default).mother) with
  | false=>simp only [Bool.and_false,Bool.false_and]
  | true=>rw [Kp.two h f (h.fa q hq.1 hq.2) c1,Kp.two h m (h.mo q hq.1 hq.2) c2]
theorem Moved.parent (h:Moved x g o) {p q:Int} (hp:0≤p∧p<x.people.length) (hq:0≤q∧q<x.people.length):zc7 x (oo o p) (oo o q)=zc7 g p q:=by
 unfold zc7
 rw [Kp.eqd h (h.fa q hq.1 hq.2) hp,Kp.eqd h (h.mo q hq.1 hq.2) hp]
theorem Moved.prs (h:Moved x g o) {p q:Int} (hp:0≤p∧p<x.people.length) (hq:0≤q∧q<x.people.length) (s:Step):(zen x s (KV.p (oo o p) (oo o q))).getD false=(zen g s (KV.p p q)).getD false:=by
 rw [Bool.eq_iff_iff,zsg,zsg,h.ul]
 have a:∀ k:Nat,k<x.unions.length→∀ r:Int,(0≤r∧r<x.people.length)→((x.unions.getD k default).woman=oo o r↔(g.unions.getD k default).woman=r):=fun k hk r hr=>by
  have w:=h.wom k hk
  rw [← w.2]
  exact ⟨fun e=>h.inj w.1 hr e,fun e=>by rw [e]⟩
 have b:∀ k:Nat,k<x.unions.length→∀ r:Int,(0≤r∧r<x.people.length)→((x.unions.getD k default).man=oo o r↔(g.unions.getD k default).man=r):=fun k hk r hr=>by
  have w:=h.man k hk
  rw [← w.2]
  exact ⟨fun e=>h.inj w.1 hr e,fun e=>by rw [e]⟩
 constructor
 ·rintro (⟨h1,k,h2,h3,h4⟩ | ⟨h1,k,h2,h3,h4⟩)
  ·exact .inl ⟨h1,k,h2,(a k h2 p hp).1 h3,(b k h2 q hq).1 h4⟩
  ·exact .inr ⟨h1,k,h2,(b k h2 p hp).1 h3,(a k h2 q hq).1 h4⟩
 ·rintro (⟨h1,k,h2,h3,h4⟩ | ⟨h1,k,h2,h3,h4⟩)
  ·exact .inl ⟨h1,k,h2,(a k h2 p hp).2 h3,(b k h2 q hq).2 h4⟩
  ·exact .inr ⟨h1,k,h2,(b k h2 p hp).2 h3,(a k h2 q hq).2 h4⟩
theorem Moved.step (h:Moved x g o) {p q:Int} (hp:0≤p∧p<x.people.length) (hq:0≤q∧q<x.people.length) {s:Step} (hs:s.age=0):zd8 (oo o p) (oo o q) x s (zen x s)=zd8 p q g s (zen g s):=by
 unfold zd8
 rw [hs,Kp.eqd h (h.fa p hp.1 hp.2) hq,Kp.eqd h (h.mo p hp.1 hp.2) hq,← h.sex q hq.1 hq.2,h.full hp hq,h.parent hp hq,h.prs hp hq]
 simp only [show decide ((0:Int)=1)=false from rfl,show decide ((0:Int)=2)=false from rfl,Bool.not_false,Bool.true_or,Bool.and_true]
theorem Moved.rel (h : Moved x g o) {t : KinType} (ht : ∀ s ∈ t.steps, s.age = 0) : ∀ (i : Nat), i ≤ t.steps.length → ∀ p q : Int, (0 ≤ p ∧ p < x.people.length) → (0 ≤ q ∧ q < x.people.length) → relIs x t i (oo o p) (oo o q) = relIs g t i p q
  | 0,_,p,q,hp,hq=>by
    show zgd (oo o p) (oo o q) t x=zgd p q t g
    unfold zgd
    rw [h.dec hp hq,← h.sex p hp.1 hp.2]
  | i+1,hi,p,q,hp,hq=>by
    show zeg (oo o p) (oo o q) (Relation.mk (x.people.length:Int) (zcn x.people.length (relIs x t i))) (zc5 x (t.steps.getD i default))=zeg p q (Relation.mk (g.people.length:Int) (zcn g.people.length (relIs g t i))) (zc5 g (t.steps.getD i default))
    rw [Bool.eq_iff_iff,zm8,zm8,zf9,zf9]
    have hs:(t.steps.getD i default).age=0:=ht _ (zb0 om)
    have rp:=h.rng hp
    have rq:=h.rng hq
    have c:∀ z:Int,0≤z→((z.toNat:Nat):Int)=z:=fun z hz=>by omega
    constructor
    · rintro ⟨r,h1,h2⟩
      have h1:=(zdx (n:=x.people.length) (is:=relIs x t i) (a:=(oo o p).toNat) om).1 h1
      have h2:=(zdx (n:=x.people.length) (is:=fun a b=>zd8 a b x (t.steps.getD i default) (zen x (t.steps.getD i default))) (a:=r.toNat) om).1 h2
      rw [c _ rp.1] at h1
      rw [c _ h1.1.1] at h2
      obtain ⟨w,hw,e⟩:=h.sur h1.1
      subst e
      refine ⟨w,(zdx (n:=g.people.length) (is:=relIs g t i) (a:=p.toNat) za0).2 ⟨by rw [h.pl];exact hw,?_⟩,(zdx (n:=g.people.length) (is:=fun a b=>zd8 a b g (t.steps.getD i default) (zen g (t.steps.getD i default))) (a:=w.toNat) za0).2 ⟨by rw [h.pl];exact hq,?_⟩⟩
      · rw [c _ hp.1,← h.rel ht i om p w hp hw];exact h1.2
      · rw [c _ hw.1,← h.step hw hq hs];exact h2.2
    · rintro ⟨w,h1,h2⟩
      have h1:=(zdx (n:=g.people.length) (is:=relIs g t i) (a:=p.toNat) za0).1 h1
      rw [c _ hp.1,h.pl] at h1
      have h2:=(zdx (n:=g.people.length) (is:=fun a b=>zd8 a b g (t.steps.getD i default) (zen g (t.steps.getD i default))) (a:=w.toNat) za0).1 h2
      rw [c _ h1.1.1] at h2
      have rw_:=h.rng h1.1
      refine ⟨oo o w,(zdx (n:=x.people.length) (is:=relIs x t i) (a:=(oo o p).toNat) om).2 ⟨rw_,?_⟩,(zdx (n:=x.people.length) (is:=fun a b=>zd8 a b x (t.steps.getD i default) (zen x (t.steps.getD i default))) (a:=(oo o w).toNat) om).2 ⟨rq,?_⟩⟩
      · rw [c _ rp.1,h.rel ht i om p w hp h1.1];exact h1.2
      · rw [c _ rw_.1,h.step h1.1 hq hs];exact h2.2
theorem Moved.relatives (h:Moved x g o) {t:KinType} (ht:∀ s∈t.steps,s.age=0) {p:Int} (hp:0≤p∧p<x.people.length):zb6 (relatives x (oo o p) t) o=relatives g p t:=by
 have gp:0≤p∧p<(g.people.length:Int):=by rw [h.pl];exact hp
 have rp:=h.rng hp
 unfold YtaageiiodlfeiaaGreat.relatives
 rw [(ze2 x _).2 ⟨h.hx,rp⟩,(ze2 g p).2 ⟨h.hg,gp⟩]
 cases hty:zd2 t with
 | false =>
  simp only [Bool.not_true,Bool.not_false,Bool.or_true,cond_true]
  rw [zhn (p:=fun _=>false) (fun i hi=>⟨fun h=>absurd h List.not_mem_nil,fun h=>(nomatch h)⟩)]
  simp
 | true =>
  simp only [Bool.not_true,Bool.or_false,cond_false]
  rw [zju h.hx hty,zju h.hg hty]
  have e:=zi7 g.people.length (relIs g t t.steps.length) (a:=p.toNat) za0
  rw [show ((p.toNat:Nat):Int)=p by omega] at e
  show zb6 ((zcn x.people.length (relIs x t t.steps.length)).getD (oo o p).toNat default) o=(zcn g.people.length (relIs g t t.steps.length)).getD p.toNat default
  rw [e,h.pl,show List.range x.people.length=List.range o.length by rw [h.or.len]]
  refine zhn fun i hi=>?_
  have n:=h.nat hi
  rw [n.2]
  have m:=zdx (n:=x.people.length) (is:=relIs x t t.steps.length) (a:=(oo o p).toNat) om (b:=oo o (i:Int))
  rw [show (((oo o p).toNat:Nat):Int)=oo o p by omega,h.rel ht _ (Nat.le_refl _) p (i:Int) hp n.1] at m
  exact m.trans ⟨fun h=>h.2,fun q=>⟨h.rng n.1,q⟩⟩
end
theorem zx5 (l:List Int):zcq l l=true:=by
 unfold zcq
 rw [decide_eq_true rfl]
 refine (zfb _ _ _).2 ⟨fun j hj=>?_,rfl⟩
 rw [decide_eq_true rfl];rfl
theorem zwz {n:Nat} (h:n<8):∀ s∈(zbv (([[70,90,83],[77,66],[87],[72,66,68],[70,70],[83,68],[109,58,66,87],[90,83,90]]:List (List UInt8)).getD n default)).1.steps,s.age=0:=by
 have:n=0∨n=1∨n=2∨n=3∨n=4∨n=5∨n=6∨n=7:=by omega
 rcases this with rfl | rfl | rfl | rfl | rfl | rfl | rfl | rfl<;>decide +kernel
theorem zr9 {n:Nat} (h:n<8):(zbv (([[70,90,83],[77,66],[87],[72,66,68],[70,70],[83,68],[109,58,66,87],[90,83,90]]:List (List UInt8)).getD n default)).1.steps.length≤8:=by
 have:n=0∨n=1∨n=2∨n=3∨n=4∨n=5∨n=6∨n=7:=by omega
 rcases this with rfl | rfl | rfl | rfl | rfl | rfl | rfl | rfl<;>decide +kernel
theorem zsz {c:l01Cur} (hc:CurOk c) {f:Family} (hf:f.people.length≤40):OrP f.people.length (zjm c f).1:=by
 unfold zjm jn
 refine zb3 (fun i (v:List Int)=>v=upto i) (fun (r:List Int×Int×Int)=>OrP f.people.length r.1) rfl (fun i v next hi hv hn=>hn _ (by rw [hv,zmy])) (fun v hv=>?_)
 have b:=zbw hc (n:=12) om
 refine ze0 (fun (w:List Int×Int×Int×Int)=>OrP f.people.length w.1∧CurOk ⟨c.b,w.2.2.1,w.2.2.2⟩) (fun w=>w.2.1.toNat) (fun (r:List Int×Int×Int)=>OrP f.people.length r.1) (fun w next hw hn=>?_) _ _ (Nat.lt_succ_self _) ⟨hv ▸ List.Perm.refl _,b.2⟩
 refine zbm (p:=fun (r:List Int×Int×Int)=>OrP f.people.length r.1) (fun c1=>?_) (fun _=>hw.1)
 simp only [Bool.and_eq_true,decide_eq_true_eq] at c1
 have hl:=hw.1.len
 have d:=zbw hw.2 (n:=((w.1.length:Nat):Int) - 1) om
 have dl:=d.1.2.2 om
 have go:∀ (t:Bool) (a b:Int),CurOk ⟨c.b,a,b⟩→OrP f.people.length (bif t then (next ((w.1.set (za8 ⟨c.b,w.2.2.1,w.2.2.2⟩ (((w.1.length:Nat):Int) - 1)).1.toNat (w.1.getD ((za8 ⟨c.b,w.2.2.1,w.2.2.2⟩ (((w.1.length:Nat):Int) - 1)).1+1).toNat default)).set ((za8 ⟨c.b,w.2.2.1,w.2.2.2⟩ (((w.1.length:Nat):Int) - 1)).1+1).toNat (w.1.getD (za8 ⟨c.b,w.2.2.1,w.2.2.2⟩ (((w.1.length:Nat):Int) - 1)).1.toNat default),w.2.1 - 1,a,b)) else (next (w.1,w.2.1 - 1,a,b))).1:=fun t a b hab=>by
  cases t with
  | true=>exact hn _ ⟨hw.1.swap om om,hab⟩ zay
  | false=>exact hn _ ⟨hw.1,hab⟩ zay
 refine zbm (p:=fun (r:List Int×Int×Int)=>OrP f.people.length r.1) (fun _=>go _ _ _ (zcy d.2 om)) (fun _=>go _ _ _ d.2)
theorem zpo {b:List Int} (hx:b.length≤1048576) (hb:∀ y∈b,0≤y∧y≤255) {f:Family} (hf:f.people.length≤40):OrP f.people.length (zfv b f):=zsz (zgi hb hx) hf
theorem zll {x:Family} (hx:za4 x=true) {o:List Int} (ho:OrP x.people.length o):za6 x o=bif (!(za4 (zei x o))) then ((Family.mk ([]:List Person) ([]:List Union)),false) else (zei x o,true):=by
 have P:=zuy ho
 have hl:=ho.len
 unfold za6
 rw [zi8 hx ho,zgj,zgj,hx,z0w,decide_eq_true om]
 have e:zil o=true:=by unfold zil;rw [hl];exact P.ok
 rw [e];rfl
theorem zb5 {x:Family} (hx:za4 x=true) {o:List Int} (ho:OrP x.people.length o):(za6 x o).1.people.length≤40∧(za6 x o).1.unions.length≤60∧((∀ p∈x.people,p.name.length≤1048576)→∀ p∈(za6 x o).1.people,p.name.length≤1048576):=by
 rw [zll hx ho]
 have hn:=fam_n hx
 have os:=zmn hx ho
 rw [zi8 hx ho] at os
 have hl:=ho.len
 refine zbm (p:=fun (r:Family×Bool)=>r.1.people.length≤40∧r.1.unions.length≤60∧((∀ p∈x.people,p.name.length≤1048576)→∀ p∈r.1.people,p.name.length≤1048576)) (fun _=>⟨Nat.zero_le _,Nat.zero_le _,fun _ p h=>absurd h List.not_mem_nil⟩) (fun _=>⟨?_,?_,os.2.2⟩)
 ·show (o.map _).length≤40;rw [List.length_map];omega
 ·show (x.unions.map _).length≤60;rw [List.length_map];omega
theorem zpz (l o:List Int):(zb6 l o).length≤o.length:=by
 unfold zb6
 exact zb3 (fun i (v:List Int)=>v.length≤i) (fun (r:List Int)=>r.length≤o.length) (Nat.le_refl _) (fun i v next hi hv hn=>zbm (p:=fun (r:List Int)=>r.length≤o.length) (fun _=>hn _ (by simp only [List.length_append,List.length_cons,List.length_nil];omega)) (fun _=>hn _ om)) (fun v hv=>hv)
theorem zqz (x:Family) (p:Int) (t:KinType) (hn:x.people.length≤40):(relatives x p t).length≤1048576:=by
 unfold relatives
 refine zbm (p:=fun (r:List Int)=>r.length≤1048576) (fun _=>Nat.zero_le _) (fun c=>?_)
 simp only [zbd,za9] at c
 have h1:=(ze2 x p).1 c.1
 rw [zju h1.1 c.2]
 exact Nat.le_trans (zm7 _ _ (zb0 (d:=[]) (by rw [zgc];omega))) om
theorem zyx {n:Nat} (h:n<8):(([[70,90,83],[77,66],[87],[72,66,68],[70,70],[83,68],[109,58,66,87],[90,83,90]]:List (List UInt8)).getD n default).length≤4:=by
 revert n;decide
end Go.Proofs.YtaageiiodlfeiaaGreat
