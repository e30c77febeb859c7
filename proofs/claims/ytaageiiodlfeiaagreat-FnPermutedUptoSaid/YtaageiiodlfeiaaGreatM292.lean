import Derived.Test.YtaageiiodlfeiaaGreatPW1
set_option maxHeartbeats 4000000
set_option linter.unusedSimpArgs false
set_option linter.unusedVariables false
namespace Go.Proofs.YtaageiiodlfeiaaGreat
open Go Go.Lite Go.Proofs
def oo (o:List Int) (q:Int):Int:=o.getD q.toNat default
def Kp (n:Nat) (o:List Int) (a b:Int):Prop:=(0≤a∧a<n∧0≤b∧oo o a=b)∨(a<0∧b<0)
theorem zlu {n:Nat} {o:List Int} {a b:Int} (h:Kp n o a b):decide (0≤b)=decide (0≤a):=by
 rw [decide_eq_decide]
 rcases h with h | h<;>omega
theorem zj9 {n:Nat} {o:List Int} {a b:Int} (h:Kp n o a b) (ha:decide (0≤a)=true):oo o a=b∧0≤a∧a<n:=by
 have ha:=of_decide_eq_true ha
 rcases h with h | h
 ·exact ⟨h.2.2.2,h.1,h.2.1⟩
 ·omega
structure Moved (x g:Family) (o:List Int):Prop where
 hx:za4 x=true
 hg:za4 g=true
 or:OrP x.people.length o
 pl:g.people.length=x.people.length
 ul:g.unions.length=x.unions.length
 sex:∀ q:Int,0≤q→q<x.people.length→(g.people.getD q.toNat default).sex=(x.people.getD (oo o q).toNat default).sex
 born:∀ q:Int,0≤q→q<x.people.length→(g.people.getD q.toNat default).born=(x.people.getD (oo o q).toNat default).born
 died:∀ q:Int,0≤q→q<x.people.length→(g.people.getD q.toNat default).died=(x.people.getD (oo o q).toNat default).died
 fa:∀ q:Int,0≤q→q<x.people.length→Kp x.people.length o (g.people.getD q.toNat default).father (x.people.getD (oo o q).toNat default).father
 mo:∀ q:Int,0≤q→q<x.people.length→Kp x.people.length o (g.people.getD q.toNat default).mother (x.people.getD (oo o q).toNat default).mother
 man:∀ k:Nat,k<x.unions.length→(0≤(g.unions.getD k default).man∧(g.unions.getD k default).man<x.people.length)∧oo o (g.unions.getD k default).man=(x.unions.getD k default).man
 wom:∀ k:Nat,k<x.unions.length→(0≤(g.unions.getD k default).woman∧(g.unions.getD k default).woman<x.people.length)∧oo o (g.unions.getD k default).woman=(x.unions.getD k default).woman
 frm:∀ k:Nat,k<x.unions.length→(g.unions.getD k default).from0=(x.unions.getD k default).from0
 to:∀ k:Nat,k<x.unions.length→(g.unions.getD k default).to=(x.unions.getD k default).to
theorem zy9 {x:Family} (hx:za4 x=true) {o:List Int} (ho:OrP x.people.length o) (hg:za4 (zei x o)=true):Moved x (zei x o) o:=by
 have P:=zuy ho
 have hl:=ho.len
 have hp:∀ q:Int,0≤q→q<x.people.length→(zei x o).people.getD q.toNat default=zeh (zbs o ((x.people.length:Nat):Int)).1 (x.people.getD (oo o q).toNat default):=fun q h0 h1=>by
  show (o.map _).getD q.toNat default=_
  rw [zrt _ om];rfl
 have hu:∀ k:Nat,k<x.unions.length→(zei x o).unions.getD k default=zq2 (zbs o ((x.people.length:Nat):Int)).1 (x.unions.getD k default):=fun k hk=>by
  show (x.unions.map _).getD k default=_
  rw [zrt _ hk]
 have kp:∀ v:Int,v<x.people.length→Kp x.people.length o (bif decide (0≤v) then (zbs o ((x.people.length:Nat):Int)).1.getD v.toNat default else v) v:=fun v hv=>by
  by_cases c:0≤v
  ·rw [decide_eq_true c]
   have:=P.pos v c hv
   exact .inl ⟨this.1.1,this.1.2,c,this.2⟩
  ·rw [decide_eq_false c];exact .inr ⟨by simpa using c,om⟩
 have hr:∀ q:Int,0≤q→q<x.people.length→0≤oo o q∧oo o q<x.people.length:=fun q h0 h1=>ho.at om
 refine ⟨hx,hg,ho,?_,?_,fun q h0 h1=>by rw [hp q h0 h1];rfl,fun q h0 h1=>by rw [hp q h0 h1];rfl,fun q h0 h1=>by rw [hp q h0 h1];rfl,fun q h0 h1=>?_,fun q h0 h1=>?_,fun k hk=>?_,fun k hk=>?_,fun k hk=>by rw [hu k hk];rfl,fun k hk=>by rw [hu k hk];rfl⟩
 ·show (o.map _).length=_;rw [List.length_map,hl]
 ·show (x.unions.map _).length=_;rw [List.length_map]
 ·rw [hp q h0 h1]
  have:=hr q h0 h1
  have:=zbn x hx (oo o q).toNat om
  exact kp _ om
 ·rw [hp q h0 h1]
  have:=hr q h0 h1
  have:=zbn x hx (oo o q).toNat om
  exact kp _ om
 ·rw [hu k hk]
  have u:=(fam_u hx hk).man
  exact P.pos _ u.1 u.2
 ·rw [hu k hk]
  have u:=(fam_u hx hk).woman
  exact P.pos _ u.1 u.2
section
variable {x g:Family} {o:List Int}
theorem Moved.rng (h:Moved x g o) {q:Int} (hq:0≤q∧q<x.people.length):0≤oo o q∧oo o q<x.people.length:=h.or.at (by have:=h.or.len;omega)
theorem Moved.inj (h:Moved x g o) {p q:Int} (hp:0≤p∧p<x.people.length) (hq:0≤q∧q<x.people.length) (e:oo o p=oo o q):p=q:=by
 have hl:=h.or.len
 have nd:o.Nodup:=h.or.nodup_iff.2 (zkp _)
 have e1:∀ (k:Int) (hk:k.toNat<o.length),oo o k=o[k.toNat]:=fun k hk=>by unfold oo;rw [List.getD_eq_getElem?_getD,List.getElem?_eq_getElem hk];rfl
 rw [e1 p om,e1 q om] at e
 have:=(List.getElem_inj nd).1 e
 omega
theorem Moved.sur (h:Moved x g o) {r:Int} (hr:0≤r∧r<x.people.length):∃ q:Int,(0≤q∧q<x.people.length)∧oo o q=r:=by
 obtain ⟨k,hk,e⟩:=zdk (d:=default) (h.or.mem_iff.2 (mem_upto.2 hr))
 have hl:=h.or.len
 exact ⟨(k:Int),⟨om,om⟩,by unfold oo;rw [Int.toNat_natCast];exact e⟩
theorem Moved.parents (h:Moved x g o) {p:Int} (hp:0≤p∧p<x.people.length):zbe x (oo o p)=(zbe g p).map (oo o):=by
 have f:=h.fa p hp.1 hp.2
 have m:=h.mo p hp.1 hp.2
 unfold zbe
 rw [zlu f,zlu m]
 cases c1:decide (0≤(g.people.getD p.toNat default).father)<;>cases c2:decide (0≤(g.people.getD p.toNat default).mother)
 ·rfl
 ·rw [← (zj9 m c2).1];rfl
 ·rw [← (zj9 f c1).1];rfl
 ·rw [← (zj9 m c2).1,← (zj9 f c1).1];rfl
theorem Moved.goes (h:Moved x g o) {p:Int} (hp:0≤p∧p<x.people.length) {m:Nat} {q:Int} (hu:Up g p m q):Up x (oo o p) m (oo o q):=by
 induction hu with
 | zero=>exact .zero
 | step hu hq ih =>
  have r:=hu.rng (zbn g h.hg) (by rw [h.pl];exact hp)
  rw [h.pl] at r
  exact .step ih (by rw [h.parents ⟨r.1,r.2.1⟩];exact List.mem_map_of_mem hq)
theorem Moved.dn (h:Moved x g o) {p:Int} (hp:0≤p∧p<x.people.length) {m:Nat} {r:Int} (hu:Up x (oo o p) m r):∃ q:Int,(0≤q∧q<x.people.length)∧oo o q=r∧Up g p m q:=by
 induction hu with
 | zero=>exact ⟨p,hp,rfl,.zero⟩
 | step hu hq ih =>
  obtain ⟨q,h1,h2,h3⟩:=ih
  rw [← h2,h.parents h1] at hq
  obtain ⟨s,hs,rfl⟩:=List.mem_map.1 hq
  have r:=(Up.step h3 hs).rng (zbn g h.hg) (by rw [h.pl];exact hp)
  rw [h.pl] at r
  exact ⟨s,⟨r.1,r.2.1⟩,rfl,.step h3 hs⟩
theorem Moved.up_iff (h:Moved x g o) {p q:Int} (hp:0≤p∧p<x.people.length) (hq:0≤q∧q<x.people.length) (m:Nat):Up g p m q↔Up x (oo o p) m (oo o q):=by
 refine ⟨h.goes hp,fun hu=>?_⟩
 obtain ⟨s,h1,h2,h3⟩:=h.dn hp hu
 rw [← h.inj h1 hq h2];exact h3
theorem Moved.ups (h:Moved x g o) {p q:Int} (hp:0≤p∧p<x.people.length) (hq:0≤q∧q<x.people.length):(zbg g p).getD q.toNat default=(zbg x (oo o p)).getD (oo o q).toNat default:=by
 have r:=h.rng hp
 have s:=h.rng hq
 rw [zc4 g p (zbn g h.hg) (by rw [h.pl];exact hp),zc4 x (oo o p) (zbn x h.hx) r]
 have dk:=zev g p (zbn g h.hg) (by rw [h.pl];exact hp)
 have dx:=zev x (oo o p) (zbn x h.hx) r
 have cq:((q.toNat:Nat):Int)=q:=by omega
 have cs:(((oo o q).toNat:Nat):Int)=oo o q:=by omega
 have key:=h.up_iff hp hq
 rcases Int.lt_or_le ((l8Up g p).getD q.toNat default) 0 with c | c
 ·obtain ⟨a1,a2⟩:=dk.no q.toNat za0 c
  rw [cq] at a2
  rcases Int.lt_or_le ((l8Up x (oo o p)).getD (oo o q).toNat default) 0 with c' | c'
  ·rw [a1,(dx.no _ om c').1]
  ·have:=(dx.yes _ om c').1
   rw [cs] at this
   exact absurd ((key _).2 this) (a2 _)
 ·obtain ⟨a1,a2⟩:=dk.yes q.toNat za0 c
  rw [cq] at a1 a2
  rcases Int.lt_or_le ((l8Up x (oo o p)).getD (oo o q).toNat default) 0 with c' | c'
  ·have:=(dx.no _ om c').2
   rw [cs] at this
   exact absurd ((key _).1 a1) (this _)
  ·obtain ⟨b1,b2⟩:=dx.yes _ om c'
   rw [cs] at b1 b2
   have:=a2 _ ((key _).2 b1)
   have:=b2 _ ((key _).1 a1)
   omega
theorem Moved.kin (h : Moved x g o) : ∀ (m : Nat) (p q : Int), (0 ≤ p ∧ p < x.people.length) → (0 ≤ q ∧ q < x.people.length) → p + q < m → kn g p q = kn x (oo o p) (oo o q)
  | 0,p,q,hp,hq,hm=>by omega
  | m+1,p,q,hp,hq,hm=>by
    have gp:0≤p∧p<(g.people.length:Int):=by rw [h.pl];exact hp
    have gq:0≤q∧q<(g.people.length:Int):=by rw [h.pl];exact hq
    have key:∀ p q:Int,(0≤p∧p<x.people.length)→(0≤q∧q<p)→p+q<m+1→kn g p q=kn x (oo o p) (oo o q):=fun p q hp hq hm=>by
      have gp:0≤p∧p<(g.people.length:Int):=by rw [h.pl];exact hp
      have q1:0≤q∧q<(x.people.length:Int):=⟨hq.1,om⟩
      have e1:=zu9 h.hg gp hq
      have e2:=kn_up h.hx ((oo o q).toNat+1) (oo o p) (oo o q) (h.rng hp) (h.rng q1) (by have:=h.rng q1;omega) fun ⟨k,hk⟩=>by
        have:=((h.up_iff q1 hp k).2 hk).rng (zbn g h.hg) (by rw [h.pl];exact q1)
        omega
      have e3:sumTo (fun i=>kn g ((zbe g p).getD i default) q) (zbe g p).length=sumTo (fun i=>kn x ((zbe x (oo o p)).getD i default) (oo o q)) (zbe x (oo o p)).length:=by
        rw [h.parents hp,List.length_map]
        refine zel _ fun i hi=>?_
        have r:=zu0 h.hg gp hi
        rw [zrt _ hi]
        exact h.kin m _ _ ⟨r.1.1,om⟩ q1 om
      omega
    rcases Int.lt_trichotomy p q with c | c | c
    · rw [zic,zic x,key q p hq ⟨hp.1,c⟩ om]
    · subst c
      rw [zrr h.hg gp,zrr h.hx (h.rng hp)]
      have f:=h.fa p hp.1 hp.2
      have m':=h.mo p hp.1 hp.2
      have lt:=zbn g h.hg p.toNat om
      rw [zlu f,zlu m']
      cases c1:decide (0≤(g.people.getD p.toNat default).father)<;>cases c2:decide (0≤(g.people.getD p.toNat default).mother)<;>simp only [Bool.and_self,Bool.and_false,Bool.false_and,cond_true,cond_false]
      have k1:=zj9 f c1
      have k2:=zj9 m' c2
      rw [← k1.1,← k2.1,h.kin m _ _ k1.2 k2.2 om]
    · exact key p q hp ⟨hq.1,c⟩ om
theorem Moved.kinship (h:Moved x g o) {p q:Int} (hp:0≤p∧p<x.people.length) (hq:0≤q∧q<x.people.length):zbf x (oo o p) (oo o q)=zbf g p q:=by
 rw [zn8 h.hx (h.rng hp) (h.rng hq),zn8 h.hg (by rw [h.pl];exact hp) (by rw [h.pl];exact hq),h.kin ((p+q).toNat+1) p q hp hq om]
end
theorem zhn {l o:List Int} {p:Nat→Bool} (h:∀ i:Nat,i<o.length→(o.getD i default∈l↔p i=true)):zb6 l o=((List.range o.length).filter p).map fun i=>((i:Nat):Int):=by
 unfold zb6
 rw [zki]
 congr 1
 refine List.filter_congr fun i hi=>?_
 rw [Bool.eq_iff_iff,zwe]
 exact h i (List.mem_range.1 hi)
section
variable {x g:Family} {o:List Int}
theorem Moved.nat (h:Moved x g o) {i:Nat} (hi:i<o.length):(0≤(i:Int)∧(i:Int)<x.people.length)∧o.getD i default=oo o (i:Int):=by
 have:=h.or.len
 exact ⟨⟨om,om⟩,by unfold oo;rw [Int.toNat_natCast]⟩
theorem Moved.ancestors (h:Moved x g o) {p:Int} (hp:0≤p∧p<x.people.length):zb6 (zbt x (oo o p)) o=zbt g p:=by
 have gp:0≤p∧p<(g.people.length:Int):=by rw [h.pl];exact hp
 have r:=h.rng hp
 have l1:(zbg g p).length=o.length:=by rw [zc4 g p (zbn g h.hg) gp,(zev g p (zbn g h.hg) gp).len,h.pl,h.or.len]
 have l2:(zbg x (oo o p)).length=x.people.length:=by rw [zc4 x (oo o p) (zbn x h.hx) r,(zev x (oo o p) (zbn x h.hx) r).len]
 have e:zbt g p=((List.range o.length).filter fun i=>decide (0<(zbg g p).getD i default)).map fun i=>((i:Nat):Int):=by
  unfold zbt
  rw [(ze2 g p).2 ⟨h.hg,gp⟩]
  simp only [Bool.not_true,cond_false]
  rw [zki,l1]
 rw [e]
 refine zhn fun i hi=>?_
 have n:=h.nat hi
 have u:=h.ups hp n.1
 rw [Int.toNat_natCast] at u
 rw [decide_eq_true_eq,u,n.2]
 unfold zbt
 rw [(ze2 x (oo o p)).2 ⟨h.hx,r⟩]
 simp only [Bool.not_true,cond_false]
 rw [zs8 (f:=fun i=>((i:Nat):Int))]
 have s:=h.rng n.1
 constructor
 ·rintro ⟨j,h1,h2,h3⟩
  rw [h3,Int.toNat_natCast];exact of_decide_eq_true h2
 ·intro h2
  exact ⟨(oo o (i:Int)).toNat,om,decide_eq_true h2,om⟩
def Bt (a b c d:Int):Prop:=a+b<c+d∨(a+b=c+d∧(max a b<max c d∨(max a b=max c d∧a<c)))
structure LkOk (x:Family) (a b:Int) (r:Int×Int×Bool):Prop where
 no:r.2.2=false→r=(0,0,false)∧∀ q:Int,0≤q→q<x.people.length→¬ (0≤(zbg x a).getD q.toNat default∧0≤(zbg x b).getD q.toNat default)
 yes : r.2.2 = true → (∃ q : Int, 0 ≤ q ∧ q < x.people.length ∧ 0 ≤ (zbg x a).getD q.toNat default ∧ 0 ≤ (zbg x b).getD q.toNat default ∧ r.1 = (zbg x a).getD q.toNat default ∧ r.2.1 = (zbg x b).getD q.toNat default) ∧
   ∀ q:Int,0≤q→q<x.people.length→0≤(zbg x a).getD q.toNat default→0≤(zbg x b).getD q.toNat default→¬ Bt ((zbg x a).getD q.toNat default) ((zbg x b).getD q.toNat default) r.1 r.2.1
theorem zf7 (x:Family) (a b q:Int):q∈za5 x a b↔(0≤q∧q<x.people.length)∧0≤(zbg x a).getD q.toNat default∧0≤(zbg x b).getD q.toNat default:=by
 unfold za5
 rw [zs8 (f:=fun i=>((i:Nat):Int))]
 constructor
 ·rintro ⟨j,h1,h2,rfl⟩
  simp only [Bool.and_eq_true,decide_eq_true_eq] at h2
  rw [Int.toNat_natCast]
  exact ⟨⟨om,om⟩,h2⟩
 ·rintro ⟨h1,h2⟩
  exact ⟨q.toNat,om,by simp only [Bool.and_eq_true,decide_eq_true_eq];exact h2,om⟩
theorem zxp (x:Family) (a b:Int):LkOk x a b (zde x a b):=by
 have fin : ∀ (v : Int × Int × Bool), ((v.2.2 = false → (za5 x a b).length = 0 ∧ v = (0, 0, false)) ∧ (v.2.2 = true → (∃ j : Nat, j < (za5 x a b).length ∧ v.1 = (zbg x a).getD ((za5 x a b).getD j default).toNat default ∧ v.2.1 = (zbg x b).getD ((za5 x a b).getD j default).toNat default) ∧
     ∀ j:Nat,j<(za5 x a b).length→¬ Bt ((zbg x a).getD ((za5 x a b).getD j default).toNat default) ((zbg x b).getD ((za5 x a b).getD j default).toNat default) v.1 v.2.1))→LkOk x a b (v.1,v.2.1,v.2.2):=fun v hv=>by
  refine ⟨fun h=>?_,fun h=>?_⟩
  ·obtain ⟨h1,h2⟩:=hv.1 h
   refine ⟨by rw [h2],fun q h3 h4 h5=>?_⟩
   have:=(zf7 x a b q).2 ⟨⟨h3,h4⟩,h5⟩
   rw [List.length_eq_zero_iff.1 h1] at this
   exact absurd this List.not_mem_nil
  ·obtain ⟨⟨j,h1,h2,h3⟩,h4⟩:=hv.2 h
   have hm:=(zf7 x a b _).1 (zb0 (d:=default) h1)
   refine ⟨⟨_,hm.1.1,hm.1.2,hm.2.1,hm.2.2,h2,h3⟩,fun q q1 q2 q3 q4=>?_⟩
   obtain ⟨k,hk,e⟩:=zdk (d:=default) ((zf7 x a b q).2 ⟨⟨q1,q2⟩,q3,q4⟩)
   rw [← e];exact h4 k hk
 unfold zde
 refine zb3 (fun i (v : Int × Int × Bool) => (v.2.2 = false → i = 0 ∧ v = (0, 0, false)) ∧ (v.2.2 = true → (∃ j : Nat, j < i ∧ v.1 = (zbg x a).getD ((za5 x a b).getD j default).toNat default ∧ v.2.1 = (zbg x b).getD ((za5 x a b).getD j default).toNat default) ∧
     ∀ j:Nat,j<i→¬ Bt ((zbg x a).getD ((za5 x a b).getD j default).toNat default) ((zbg x b).getD ((za5 x a b).getD j default).toNat default) v.1 v.2.1)) (LkOk x a b) ⟨fun _=>⟨rfl,rfl⟩,fun h=>nomatch h⟩ (fun i v next hi hv hn=>?_) (fun v hv=>fin v hv)
 have keep:v.2.2=true→¬ Bt ((zbg x a).getD ((za5 x a b).getD i default).toNat default) ((zbg x b).getD ((za5 x a b).getD i default).toNat default) v.1 v.2.1→LkOk x a b (next (v.1,v.2.1,v.2.2)):=by
  intro hf hb
  refine hn (v.1,v.2.1,v.2.2) ⟨fun h=>?_,fun _=>?_⟩
  ·have h:v.2.2=false:=h
   rw [hf] at h;cases h
  ·obtain ⟨⟨j,h1,h2⟩,h3⟩:=hv.2 hf
   refine ⟨⟨j,om,h2⟩,fun j hj=>?_⟩
   by_cases e:j=i
   ·subst e;exact hb
   ·exact h3 j om
 have take:(v.2.2=true→Bt ((zbg x a).getD ((za5 x a b).getD i default).toNat default) ((zbg x b).getD ((za5 x a b).getD i default).toNat default) v.1 v.2.1)→LkOk x a b (next ((zbg x a).getD ((za5 x a b).getD i default).toNat default,(zbg x b).getD ((za5 x a b).getD i default).toNat default,true)):=by
  intro hb
  refine hn ((zbg x a).getD ((za5 x a b).getD i default).toNat default,(zbg x b).getD ((za5 x a b).getD i default).toNat default,true) ⟨(fun h=>nomatch h),fun _=>⟨⟨i,om,rfl,rfl⟩,fun j hj=>?_⟩⟩
  by_cases e:j=i
  ·subst e;unfold Bt;dsimp only;omega
  ·cases hf:v.2.2 with
   | false=>have:=(hv.1 hf).1;omega
   | true =>
    have h1:=(hv.2 hf).2 j om
    have h2:=hb hf
    unfold Bt at h1 h2 ⊢
    dsimp only
    omega
 ·revert keep take
  generalize (zbg x a).getD ((za5 x a b).getD i default).toNat default=m
  generalize (zbg x b).getD ((za5 x a b).getD i default).toNat default=n
  obtain ⟨v1,v2,v3⟩:=v
  intro keep take
  dsimp only at keep take ⊢
  cases v3 with
  | false=>exact take fun h=>nomatch h
  | true =>
   have keep:=keep rfl
   unfold Bt at keep take
   simp only [Bool.not_true,cond_false]
   by_cases c1:m+n=v1+v2
   ·rw [decide_eq_true c1]
    simp only [Bool.not_true,cond_false]
    by_cases c2:max m n=max v1 v2
    ·rw [decide_eq_true (show Max.max m n=Max.max v1 v2 from c2)]
     simp only [Bool.not_true,cond_false]
     refine zbm (p:=LkOk x a b) (fun c=>?_) (fun c=>?_)
     ·have c:=of_decide_eq_true c;exact keep om
     ·have c:=of_decide_eq_false c;exact take fun _=>by omega
    ·rw [decide_eq_false (show ¬ Max.max m n=Max.max v1 v2 from c2)]
     simp only [Bool.not_false,cond_true]
     refine zbm (p:=LkOk x a b) (fun c=>?_) (fun c=>?_)
     ·have c:max v1 v2<max m n:=of_decide_eq_true c;exact keep om
     ·have c:¬ max v1 v2<max m n:=of_decide_eq_false c;exact take fun _=>by omega
   ·rw [decide_eq_false c1]
    simp only [Bool.not_false,cond_true]
    refine zbm (p:=LkOk x a b) (fun c=>?_) (fun c=>?_)
    ·have c:=of_decide_eq_true c;exact keep om
    ·have c:=of_decide_eq_false c;exact take fun _=>by omega
theorem Moved.link (h:Moved x g o) {p q:Int} (hp:0≤p∧p<x.people.length) (hq:0≤q∧q<x.people.length):zde x (oo o p) (oo o q)=zde g p q:=by
 have L:=zxp x (oo o p) (oo o q)
 have G:=zxp g p q
 generalize zde x (oo o p) (oo o q)=r at L ⊢
 generalize zde g p q=s at G ⊢
 have tr:∀ z:Int,0≤z→z<x.people.length→(zbg g p).getD z.toNat default=(zbg x (oo o p)).getD (oo o z).toNat default∧(zbg g q).getD z.toNat default=(zbg x (oo o q)).getD (oo o z).toNat default:=fun z h0 h1=>⟨h.ups hp ⟨h0,h1⟩,h.ups hq ⟨h0,h1⟩⟩
 have gno:=G.no
 have gyes:=G.yes
 rw [h.pl] at gno gyes
 obtain ⟨r1,r2,r3⟩:=r
 obtain ⟨s1,s2,s3⟩:=s
 cases r3<;>cases s3
 ·rw [(L.no rfl).1,(gno rfl).1]
 ·obtain ⟨⟨z,h1,h2,h3,h4,_⟩,_⟩:=gyes rfl
  have t:=tr z h1 h2
  have r:=h.rng ⟨h1,h2⟩
  exact absurd ⟨by rw [← t.1];exact h3,by rw [← t.2];exact h4⟩ ((L.no rfl).2 _ r.1 r.2)
 ·obtain ⟨⟨z,h1,h2,h3,h4,_⟩,_⟩:=L.yes rfl
  obtain ⟨w,hw,e⟩:=h.sur ⟨h1,h2⟩
  subst e
  have t:=tr w hw.1 hw.2
  exact absurd ⟨by rw [t.1];exact h3,by rw [t.2];exact h4⟩ ((gno rfl).2 _ hw.1 hw.2)
 ·obtain ⟨⟨z,h1,h2,h3,h4,h5,h6⟩,h7⟩:=gyes rfl
  obtain ⟨⟨y,k1,k2,k3,k4,k5,k6⟩,k7⟩:=L.yes rfl
  obtain ⟨w,hw,e⟩:=h.sur ⟨k1,k2⟩
  subst e
  have tz:=tr z h1 h2
  have tw:=tr w hw.1 hw.2
  have rz:=h.rng ⟨h1,h2⟩
  have a1:=h7 w hw.1 hw.2 (by rw [tw.1];exact k3) (by rw [tw.2];exact k4)
  have a2:=k7 (oo o z) rz.1 rz.2 (by rw [← tz.1];exact h3) (by rw [← tz.2];exact h4)
  rw [tw.1,tw.2] at a1
  rw [← tz.1,← tz.2] at a2
  dsimp only at h5 h6 k5 k6 a1 a2
  rw [← k5,← k6] at a1
  rw [← h5,← h6] at a2
  unfold Bt at a1 a2
  have:r1=s1∧r2=s2:=by omega
  rw [this.1,this.2]
theorem Moved.linkP (h:Moved x g o) {p q:Int} (hp:0≤p∧p<x.people.length) (hq:0≤q∧q<x.people.length):za7 x (oo o p) (oo o q)=za7 g p q:=by
 unfold za7
 rw [(zdz x _ _).2 ⟨h.hx,h.rng hp,h.rng hq⟩,(zdz g _ _).2 ⟨h.hg,by rw [h.pl];exact hp,by rw [h.pl];exact hq⟩,h.link hp hq]
end
end Go.Proofs.YtaageiiodlfeiaaGreat
