import Derived.Test.YtlinnkjieghmhaaGreatDoorVS60
set_option maxHeartbeats 4000000
set_option linter.unusedSimpArgs false
set_option linter.unusedVariables false
namespace Go.Proofs.YtlinnkjieghmhaaGreatDoor
open Go Go.Lite Go.Proofs
theorem ext_g {α:Type} [Inhabited α] {l m:List α} (h:l.length=m.length) (hk:∀ k,k<l.length→l.getD k default=m.getD k default):l=m:=by
 apply List.ext_getElem h
 intro k h1 h2
 have:=hk k h1
 rw [List.getD_eq_getElem?_getD,List.getD_eq_getElem?_getD,List.getElem?_eq_getElem h1,List.getElem?_eq_getElem h2] at this
 simpa using this
def clipP (y:Int) (p:ya):ya:=⟨p.name,p.sex,p.father,p.mother,p.born,bif decide (y<p.died) then -1 else p.died⟩
def clipU (y:Int) (u:yb):yb:=⟨u.man,u.woman,u.from0,bif decide (y<u.to) then -1 else u.to⟩
structure Early (x k:yc) (y:Int):Prop where
 pl:k.people.length≤x.people.length
 pg:∀ i:Nat,i<k.people.length→k.people.getD i default=clipP y (x.people.getD i default)∧(x.people.getD i default).born≤y
 pr:∀ i:Nat,k.people.length≤i→i<x.people.length→y<(x.people.getD i default).born
 ul:k.unions.length≤x.unions.length
 ug:∀ i:Nat,i<k.unions.length→k.unions.getD i default=clipU y (x.unions.getD i default)∧(x.unions.getD i default).from0≤y
 ur:∀ i:Nat,k.unions.length≤i→i<x.unions.length→y<(x.unions.getD i default).from0

def dOf (x:yc) (l:List Int) (i:Nat):Int :=
 bif (decide (0 ≤ ((x.people.getD i default).father))) then (bif (decide (0 ≤ ((x.people.getD i default).mother))) then Max.max ((l.getD (((x.people.getD i default).father).toNat) default) + 1) ((l.getD (((x.people.getD i default).mother).toNat) default) + 1) else (l.getD (((x.people.getD i default).father).toNat) default) + 1) else
   (bif (decide (0≤((x.people.getD i default).mother))) then Max.max 0 ((l.getD (((x.people.getD i default).mother).toNat) default)+1) else 0)
theorem z0s {x z : yc} {l m : List Int} {i j : Nat} (hf : (0 ≤ (x.people.getD i default).father ↔ 0 ≤ (z.people.getD j default).father)) (hm : (0 ≤ (x.people.getD i default).mother ↔ 0 ≤ (z.people.getD j default).mother))
    (h1:0≤(x.people.getD i default).father→l.getD (x.people.getD i default).father.toNat default=m.getD (z.people.getD j default).father.toNat default)
    (h2:0≤(x.people.getD i default).mother→l.getD (x.people.getD i default).mother.toNat default=m.getD (z.people.getD j default).mother.toNat default):dOf x l i=dOf z m j:=by
 unfold dOf
 rw [show decide (0≤(z.people.getD j default).father)=decide (0≤(x.people.getD i default).father) from decide_eq_decide.2 hf.symm,show decide (0≤(z.people.getD j default).mother)=decide (0≤(x.people.getD i default).mother) from decide_eq_decide.2 hm.symm]
 cases c1:decide (0≤(x.people.getD i default).father)<;>cases c2:decide (0≤(x.people.getD i default).mother)<;>simp only [cond_true,cond_false]
 ·rw [h2 (of_decide_eq_true c2)]
 ·rw [h1 (of_decide_eq_true c1)]
 ·rw [h1 (of_decide_eq_true c1),h2 (of_decide_eq_true c2)]
def z04 (x:yc) (r:List Int):Prop:=r.length=x.people.length∧∀ i:Nat,i<x.people.length→r.getD i default=dOf x r i
theorem zlk (x:yc) (hp:Par x):(zbj x).length=x.people.length∧∀ i:Nat,i<x.people.length→(zbj x).getD i default=dOf x (zbj x) i:=by
 suffices key:z04 x (zbj x) from key
 unfold zbj
 refine zbx (fun i (v:List Int)=>v.length=i∧∀ j:Nat,j<i→v.getD j default=dOf x v j) (z04 x) ⟨rfl,fun j hj=>absurd hj (Nat.not_lt_zero _)⟩ (fun i v next hi hv hn=>?_) (fun v hv=>hv)
 obtain ⟨hl,hd⟩:=hv
 have key:∀ d:Int,d=dOf x v i→(v++[d]).length=i+1∧∀ j:Nat,j<i+1→(v++[d]).getD j default=dOf x (v++[d]) j:=by
  intro d e
  refine ⟨by simp [hl],fun j hj=>?_⟩
  have hpj:=hp j om
  have e2:dOf x (v++[d]) j=dOf x v j:=by
   refine z0s Iff.rfl Iff.rfl (fun h=>?_) (fun h=>?_)
   ·rw [zcy,if_pos om]
   ·rw [zcy,if_pos om]
  rw [e2,zcy]
  by_cases c:j<v.length
  ·rw [if_pos c];exact hd j om
  ·have:j=i:=by omega
   subst this
   rw [if_neg c,if_pos om];exact e
 have e0:dOf x v i=dOf x v i:=rfl
 unfold dOf at e0
 cases c1 : decide (0 ≤ (x.people.getD i default).father) <;> cases c2 : decide (0 ≤ (x.people.getD i default).mother) <;> simp only [c1, c2, cond_true, cond_false] <;>
   (refine hn _ (key _ ?_);unfold dOf;simp only [c1,c2,cond_true,cond_false])

theorem Early.fam {x k:yc} {y:Int} (h:Early x k y) (hx:za9 x=true):za9 k=true:=by
 obtain ⟨⟨h1,h2⟩,h3,h4,h5⟩:=(zgw x).1 hx
 have hpl:=h.pl
 have hul:=h.ul
 have hin:∀ q:Int,0≤q→q<x.people.length→(x.people.getD q.toNat default).born≤y→q<k.people.length:=by
  intro q h0 hq hb
  rcases Int.lt_or_le q k.people.length with c | c
  ·exact c
  ·have:=h.pr q.toNat om om;omega
 have hc:∀ (d b:Int),(bif decide (y<d) then (-1:Int) else d)=-1∨(bif decide (y<d) then (-1:Int) else d)=d:=by
  intro d b;cases decide (y<d)
  ·exact .inr rfl
  ·exact .inl rfl
 have hP:∀ i:Nat,i<k.people.length→FamP k i:=by
  intro i hi
  have p:=h3 i om
  have fa:=p.fa
  have mo:=p.mo
  refine ⟨?_,?_,?_,?_,fun j hj=>?_,?_,?_⟩
  ·rw [(h.pg i hi).1];exact p.name
  ·rw [(h.pg i hi).1];exact p.sex
  ·rw [(h.pg i hi).1];exact p.born
  ·rw [(h.pg i hi).1]
   have hd:=p.died
   dsimp only [clipP]
   rcases hc (x.people.getD i default).died 0 with e | e<;>rw [e]<;>omega
  ·rw [(h.pg i hi).1,(h.pg j om).1];exact p.uniq j hj
  ·rw [(h.pg i hi).1]
   dsimp only [clipP]
   refine fa.imp id fun f=>?_
   rw [(h.pg _ om).1]
   dsimp only [clipP]
   have hd:=f.2.2.2.2
   refine ⟨f.1,f.2.1,f.2.2.1,f.2.2.2.1,?_⟩
   rcases hc (x.people.getD (x.people.getD i default).father.toNat default).died 0 with e | e<;>rw [e]<;>omega
  ·rw [(h.pg i hi).1]
   dsimp only [clipP]
   refine mo.imp id fun f=>?_
   rw [(h.pg _ om).1]
   dsimp only [clipP]
   have hd:=f.2.2.2.2
   refine ⟨f.1,f.2.1,f.2.2.1,f.2.2.2.1,?_⟩
   rcases hc (x.people.getD (x.people.getD i default).mother.toNat default).died 0 with e | e<;>rw [e]<;>omega
 have hpk:Par k:=fun i hi=>by
  have p:=hP i hi
  have fa:=p.fa
  have mo:=p.mo
  omega
 have hpx:=zd2 x hx
 refine (zgw k).2 ⟨⟨om,om⟩,hP,?_,fun i hi=>?_⟩
 ·suffices hd:∀ n i:Nat,i<n→i<k.people.length→(zbj k).getD i default=(zbj x).getD i default by
   intro i hi
   rw [hd (i+1) i om hi]
   exact h4 i om
  intro n
  induction n with
  | zero=>intro i hi;omega
  | succ n ih =>
   intro i hi hik
   rw [(zlk k hpk).2 i hik,(zlk x hpx).2 i om]
   have hpi:=hpx i om
   have ef:(k.people.getD i default).father=(x.people.getD i default).father:=by rw [(h.pg i hik).1];rfl
   have em:(k.people.getD i default).mother=(x.people.getD i default).mother:=by rw [(h.pg i hik).1];rfl
   refine z0s (by rw [ef]) (by rw [em]) (fun g=>?_) (fun g=>?_)
   ·rw [ef] at g ⊢;exact ih _ om om
   ·rw [em] at g ⊢;exact ih _ om om
 ·have u:=h5 i om
  obtain ⟨e,hy⟩:=h.ug i hi
  have hman:=u.man;have hwoman:=u.woman;have hfrom:=u.from0;have hto:=u.to;have hm:=u.mdied;have hw:=u.wdied
  have hmk:=hin _ hman.1 hman.2 om
  have hwk:=hin _ hwoman.1 hwoman.2 om
  have em:=(h.pg (x.unions.getD i default).man.toNat om).1
  have ew:=(h.pg (x.unions.getD i default).woman.toNat om).1
  have g1:(k.unions.getD i default).man=(x.unions.getD i default).man:=by rw [e];rfl
  have g2:(k.unions.getD i default).woman=(x.unions.getD i default).woman:=by rw [e];rfl
  have g3:(k.unions.getD i default).from0=(x.unions.getD i default).from0:=by rw [e];rfl
  have g4:(k.unions.getD i default).to=bif decide (y<(x.unions.getD i default).to) then -1 else (x.unions.getD i default).to:=by rw [e];rfl
  refine ⟨by rw [g1];omega,by rw [g2];omega,by rw [g1,em];exact u.msex,by rw [g2,ew];exact u.wsex,by rw [g1,g2,g3,em,ew];exact hfrom,?_,?_,?_,fun j hj=>?_⟩
  ·rw [g4,g3]
   rcases hc (x.unions.getD i default).to 0 with e1 | e1<;>rw [e1]<;>omega
  ·rw [g1,em,g3,g4]
   dsimp only [clipP]
   generalize (x.people.getD (x.unions.getD i default).man.toNat default).died=d at hm ⊢
   by_cases c1:y<d<;>by_cases c2:y<(x.unions.getD i default).to<;>simp only [c1,c2,decide_true,decide_false,cond_true,cond_false,true_or,or_true]<;>omega
  ·rw [g2,ew,g3,g4]
   dsimp only [clipP]
   generalize (x.people.getD (x.unions.getD i default).woman.toNat default).died=d at hw ⊢
   by_cases c1:y<d<;>by_cases c2:y<(x.unions.getD i default).to<;>simp only [c1,c2,decide_true,decide_false,cond_true,cond_false,true_or,or_true]<;>omega
  ·rw [g1,g2,(h.ug j om).1];exact u.uniq j hj

theorem Early.parents {x k:yc} {y:Int} (h:Early x k y) {p:Int} (hp:0≤p∧p<k.people.length):zb4 k p=zb4 x p:=by
 unfold zb4
 rw [(h.pg p.toNat om).1]
 rfl
theorem Early.up {x k:yc} {y:Int} (h:Early x k y) (hx:za9 x=true) {p:Int} (hp:0≤p∧p<k.people.length) (m:Nat) (q:Int):Up k p m q↔Up x p m q:=by
 have hk:=zd2 k (h.fam hx)
 have hpx:=zd2 x hx
 have hpl:=h.pl
 constructor
 ·intro hu
  induction hu with
  | zero=>exact .zero
  | step hu hq ih =>
   have:=hu.rng hk hp
   rw [h.parents ⟨this.1,this.2.1⟩] at hq
   exact .step ih hq
 ·intro hu
  induction hu with
  | zero=>exact .zero
  | step hu hq ih =>
   have:=hu.rng hpx ⟨hp.1,om⟩
   rw [← h.parents ⟨this.1,om⟩] at hq
   exact .step ih hq
theorem zhe (keys:List Int):OrdI keys keys.length (zb7 keys):=by
 unfold zb7
 refine zbx (fun i (v:List Int)=>OrdI keys i v) (fun v=>OrdI keys keys.length v) ⟨by simp [upto],.nil⟩ (fun i v nx hi hv hn=>?_) (fun v hv=>hv)
 refine zbx (fun j (w : List Int × Bool) => (w.2 = false → w.1 = v.take j ∧ ∀ m : Nat, m < j → ¬ keys.getD i default < keys.getD (v.getD m default).toNat default) ∧
     (w.2=true→∃ c,c<j∧w.1=v.take c++((i:Nat):Int) :: (v.drop c).take (j - c)∧(∀ m:Nat,m<c→¬ keys.getD i default<keys.getD (v.getD m default).toNat default)∧keys.getD i default<keys.getD (v.getD c default).toNat default)) (fun v=>OrdI keys keys.length v)
  ⟨fun _=>⟨rfl,fun m hm=>absurd hm (Nat.not_lt_zero _)⟩,(fun h=>by cases h)⟩ (fun j w nx2 hj hw hn2=>?_) (fun w hw=>?_)
 ·obtain ⟨w1,d⟩:=w
  obtain ⟨hf,ht⟩:=hw
  dsimp only at hf ht ⊢
  cases d
  ·obtain ⟨e,hk⟩:=hf rfl
   simp only [Bool.not_false,Bool.true_and]
   cases c:decide (keys.getD i default<keys.getD (v.getD j default).toNat default)<;>simp only [cond_true,cond_false]
   ·refine hn2 _ ⟨fun _=>⟨by rw [e,← ze1 _ _ hj],fun m hm=>?_⟩,(fun h=>by cases h)⟩
    rcases Nat.lt_or_ge m j with g | g
    ·exact hk m g
    ·have:m=j:=by omega
     subst this;exact of_decide_eq_false c
   ·refine hn2 _ ⟨(fun h=>by cases h),fun _=>⟨j,om,?_,hk,of_decide_eq_true c⟩⟩
    have e3:(v.drop j).take 1=[v.getD j default]:=by
     rw [List.drop_eq_getElem_cons hj,List.take_succ_cons,List.take_zero]
     simp [List.getD,hj]
    rw [e,show j+1 - j=1 by omega,List.append_assoc,e3]
    rfl
  ·obtain ⟨c,hc,e,hk,hk2⟩:=ht rfl
   simp only [Bool.not_true,Bool.false_and,cond_false]
   refine hn2 _ ⟨(fun h=>by cases h),fun _=>⟨c,om,?_,hk,hk2⟩⟩
   rw [e,List.append_assoc,List.cons_append]
   have e2:v.getD j default=(v.drop c).getD (j - c) default:=by
    rw [List.getD_eq_getElem?_getD,List.getD_eq_getElem?_getD,List.getElem?_drop,show c+(j - c)=j by omega]
   rw [e2,show j+1 - c=(j - c)+1 by omega,ze1 (v.drop c) default (i:=j - c) (by rw [List.length_drop];omega)]
 ·obtain ⟨w1,d⟩:=w
  obtain ⟨hf,ht⟩:=hw
  dsimp only at hf ht ⊢
  cases d
  ·obtain ⟨e,hk⟩:=hf rfl
   simp only [Bool.not_false,cond_true]
   have h:=hv.insert (c:=v.length) (Nat.le_refl _) hk (fun h=>absurd h (Nat.lt_irrefl _))
   rw [List.drop_length,← e] at h
   exact hn _ h
  ·obtain ⟨c,hc,e,hk,hk2⟩:=ht rfl
   simp only [Bool.not_true,cond_false]
   have h:=hv.insert (c:=c) om hk (fun _=>hk2)
   rw [e,show v.length - c=(v.drop c).length by simp,List.take_length]
   exact hn _ h
theorem zs1 (keys:List Int) {i j:Nat} (hij:i≤j) (hj:j<(zb7 keys).length):keys.getD ((zb7 keys).getD i default).toNat default≤keys.getD ((zb7 keys).getD j default).toNat default:=by
 rcases Nat.lt_or_ge i j with g | g
 ·have:=zkd (zhe keys).pw j hj i g
  rcases this with q | q<;>omega
 ·have:i=j:=by omega
  subst this;omega
def zby (x0:List Int) (x1:Int):(List Int)×Bool:=loopN (fun i1 (v1:(List Int)) next=>next (v1.set i1 (-1))) (fun (v1:(List Int))=>bif (!decide (((x0.length:Nat):Int)=x1)) then (([]:List Int),false) else (loopN (fun i2 (v2:(List Int)) next=>bif (((decide ((x0.getD i2 default)<0))||(decide (x1≤(x0.getD i2 default))))||(decide (0≤(v2.getD ((x0.getD i2 default).toNat) default)))) then (([]:List Int),false) else (next (v2.set ((x0.getD i2 default).toNat) ((i2:Nat):Int)))) (fun (v2:(List Int))=>(v2,true)) x0.length 0 v1)) x1.toNat 0 (List.replicate x1.toNat (default:Int))
structure InvOk (o:List Int) (n:Nat) (r:(List Int)×Bool):Prop where
 out:r.2=true→o.length=n∧(∀ c∈o,0≤c∧c<n)∧r.1.length=n∧∀ i:Nat,i<o.length→r.1.getD (o.getD i default).toNat default=((i:Nat):Int)
 inn:o.length=n→(∀ c∈o,0≤c∧c<n)→o.Nodup→r.2=true
theorem zqw (o:List Int) (n:Nat):InvOk o n (zby o ((n:Nat):Int)):=by
 unfold zby
 rw [Int.toNat_natCast]
 refine zbx (fun i (v:List Int)=>v.length=n∧∀ j:Nat,j<i→v.getD j default=-1) (fun r=>InvOk o n r) ⟨by simp,fun j hj=>absurd hj (Nat.not_lt_zero _)⟩ (fun i v nx hi hv hn=>hn _ ⟨by rw [List.length_set];exact hv.1,fun j hj=>?_⟩) (fun v hv=>?_)
 ·rw [zco]
  by_cases c:j=i
  ·rw [if_pos ⟨c,by rw [hv.1];omega⟩]
  ·rw [if_neg (fun h=>c h.1)];exact hv.2 j om
 ·cases c:decide (((o.length:Nat):Int)=((n:Nat):Int))
  ·simp only [Bool.not_false,cond_true]
   exact ⟨(fun h=>by cases h),fun h=>absurd (by rw [h]) (of_decide_eq_false c)⟩
  ·simp only [Bool.not_true,cond_false]
   have hl:o.length=n:=by have:=of_decide_eq_true c;omega
   refine zbx (fun i (w : List Int) => w.length = n ∧ (∀ m : Nat, m < i → (0 ≤ o.getD m default ∧ o.getD m default < n) ∧ w.getD (o.getD m default).toNat default = ((m : Nat) : Int)) ∧ ∀ q : Nat, q < n → w.getD q default = -1 ∨ ∃ m : Nat, m < i ∧ o.getD m default = ((q : Nat) : Int)) (fun r => InvOk o n r)
     ⟨hv.1,fun m hm=>absurd hm (Nat.not_lt_zero _),fun q hq=>.inl (hv.2 q hq)⟩ (fun i w nx hi hw hn=>?_) (fun w hw=>?_)
   ·obtain ⟨w1,w2,w3⟩:=hw
    cases d:(((decide ((o.getD i default)<0))||(decide (((n:Nat):Int)≤(o.getD i default))))||(decide (0≤(w.getD ((o.getD i default).toNat) default))))
    ·simp only [cond_false]
     simp only [Bool.or_eq_false_iff,decide_eq_false_iff_not] at d
     refine hn _ ⟨by rw [List.length_set];exact w1,fun m hm=>?_,fun q hq=>?_⟩
     ·rcases Nat.lt_or_ge m i with g | g
      ·obtain ⟨g1,g2⟩:=w2 m g
       refine ⟨g1,?_⟩
       rw [zco,if_neg (fun h=>?_)]
       ·exact g2
       ·rw [h.1] at g2;omega
      ·have:m=i:=by omega
       subst this
       exact ⟨om,by rw [zco,if_pos ⟨rfl,om⟩]⟩
     ·rw [zco]
      by_cases e:q=(o.getD i default).toNat
      ·exact .inr ⟨i,om,om⟩
      ·rw [if_neg (fun h=>e h.1)]
       rcases w3 q hq with g | ⟨m,hm,g⟩
       ·exact .inl g
       ·exact .inr ⟨m,om,g⟩
    ·simp only [cond_true]
     refine ⟨(fun h=>by cases h),fun _ h2 h3=>?_⟩
     exfalso
     have hr:=h2 _ (zd0 (d:=default) hi)
     simp only [Bool.or_eq_true,decide_eq_true_eq] at d
     rcases w3 (o.getD i default).toNat om with g | ⟨m,hm,g⟩
     ·omega
     ·exact zkd (List.nodup_iff_pairwise_ne.1 h3) i hi m hm (by rw [g];omega)
   ·refine ⟨fun _=>⟨hl,fun c hc=>?_,hw.1,fun i hi=>(hw.2.1 i (by rw [hl] at hi ⊢;exact hi)).2⟩,fun _ _ _=>rfl⟩
    obtain ⟨k,hk,e⟩:=zf2 (d:=default) hc
    rw [← e]
    exact (hw.2.1 k hk).1
def zeu (x0:yc) (x1:List Int):yc×Bool:=bif ((!((zby x1 ((x0.people.length:Nat):Int)).2))||(!(za9 x0))) then ((yc.mk ([]:List ya) ([]:List yb)),false) else (loopN (fun i1 (v1:(List ya)) next=>jn (fun K1=>bif (decide (0≤((x0.people.getD ((x1.getD i1 default).toNat) default).father))) then (K1 (((zby x1 ((x0.people.length:Nat):Int)).1).getD (((x0.people.getD ((x1.getD i1 default).toNat) default).father).toNat) default)) else (K1 ((x0.people.getD ((x1.getD i1 default).toNat) default).father))) (fun (j1:Int)=>bif (decide (0≤((x0.people.getD ((x1.getD i1 default).toNat) default).mother))) then (next (v1++[(ya.mk ((x0.people.getD ((x1.getD i1 default).toNat) default).name) ((x0.people.getD ((x1.getD i1 default).toNat) default).sex) j1 (((zby x1 ((x0.people.length:Nat):Int)).1).getD (((x0.people.getD ((x1.getD i1 default).toNat) default).mother).toNat) default) ((x0.people.getD ((x1.getD i1 default).toNat) default).born) ((x0.people.getD ((x1.getD i1 default).toNat) default).died))])) else (next (v1++[(ya.mk ((x0.people.getD ((x1.getD i1 default).toNat) default).name) ((x0.people.getD ((x1.getD i1 default).toNat) default).sex) j1 ((x0.people.getD ((x1.getD i1 default).toNat) default).mother) ((x0.people.getD ((x1.getD i1 default).toNat) default).born) ((x0.people.getD ((x1.getD i1 default).toNat) default).died))])))) (fun (v1:(List ya))=>loopN (fun i2 (v2:(List yb)) next=>next (v2++[(yb.mk (((zby x1 ((x0.people.length:Nat):Int)).1).getD (((x0.unions.getD i2 default).man).toNat) default) (((zby x1 ((x0.people.length:Nat):Int)).1).getD (((x0.unions.getD i2 default).woman).toNat) default) ((x0.unions.getD i2 default).from0) ((x0.unions.getD i2 default).to))])) (fun (v2:(List yb))=>bif (!(za9 (yc.mk v1 v2))) then ((yc.mk ([]:List ya) ([]:List yb)),false) else ((yc.mk v1 v2),true)) x0.unions.length 0 ([]:List yb)) x1.length 0 ([]:List ya))
def zcz (pos:List Int) (p:ya):ya:=⟨p.name,p.sex,bif decide (0≤p.father) then pos.getD p.father.toNat default else p.father,bif decide (0≤p.mother) then pos.getD p.mother.toNat default else p.mother,p.born,p.died⟩
def zj1 (pos:List Int) (u:yb):yb:=⟨pos.getD u.man.toNat default,pos.getD u.woman.toNat default,u.from0,u.to⟩
def zbo (x:yc) (o:List Int):yc:=⟨o.map fun i=>zcz (zby o ((x.people.length:Nat):Int)).1 (x.people.getD i.toNat default),x.unions.map (zj1 (zby o ((x.people.length:Nat):Int)).1)⟩
theorem zr0 {S α:Type} {c:Bool} {a b:S} {k:S→α}:jn (fun K=>bif c then K a else K b) k=k (bif c then a else b):=by cases c<;>rfl
theorem zdw {α β:Type} [Inhabited α] [Inhabited β] (f:α→β) {l:List α} {k:Nat} (h:k<l.length):(l.map f).getD k default=f (l.getD k default):=by
 simp [List.getD,h]
structure PermOk (x:yc) (o:List Int):Prop where
 len:o.length=x.people.length
 rng:∀ i:Nat,i<o.length→0≤o.getD i default∧o.getD i default<x.people.length
 plen:(zby o ((x.people.length:Nat):Int)).1.length=x.people.length
 pos : ∀ q : Int, 0 ≤ q → q < x.people.length → (0 ≤ (zby o ((x.people.length : Nat) : Int)).1.getD q.toNat default ∧ (zby o ((x.people.length : Nat) : Int)).1.getD q.toNat default < x.people.length) ∧
   o.getD ((zby o ((x.people.length:Nat):Int)).1.getD q.toNat default).toNat default=q
 ok:(zby o ((x.people.length:Nat):Int)).2=true
theorem zzg {x:yc} {o:List Int} (h:o.Perm (upto x.people.length)):PermOk x o:=by
 have hlen:o.length=x.people.length:=by rw [h.length_eq,zee]
 have hr:∀ c∈o,0≤c∧c<x.people.length:=fun c hc=>mem_upto.1 (h.mem_iff.1 hc)
 have hi:=zqw o x.people.length
 have hok:=hi.inn hlen hr (h.nodup_iff.2 (zls _))
 obtain ⟨_,_,h3,h4⟩:=hi.out hok
 refine ⟨hlen,fun i hi=>hr _ (zd0 hi),h3,fun q h0 h1=>?_,hok⟩
 obtain ⟨k,hk,e⟩:=zf2 (d:=default) (h.mem_iff.2 (mem_upto.2 ⟨h0,h1⟩))
 have h5:=h4 k hk
 rw [e] at h5
 rw [h5]
 exact ⟨om,by rw [Int.toNat_natCast];exact e⟩
theorem zum {x:yc} (hx:za9 x=true) {o:List Int} (h:PermOk x o):zeu x o=bif (!(za9 (zbo x o))) then ((yc.mk ([]:List ya) ([]:List yb)),false) else (zbo x o,true):=by
 unfold zeu
 rw [h.ok,hx]
 simp only [Bool.not_true,Bool.or_false,cond_false]
 refine zbx (fun i (v:List ya)=>v=(o.take i).map fun i=>zcz (zby o ((x.people.length:Nat):Int)).1 (x.people.getD i.toNat default)) (fun r=>r=_) rfl (fun i v next hi hv hn=>?_) (fun v hv=>?_)
 ·rw [zr0]
  have key:∀ p:ya,p=zcz (zby o ((x.people.length:Nat):Int)).1 (x.people.getD (o.getD i default).toNat default)→v++[p]=(o.take (i+1)).map fun i=>zcz (zby o ((x.people.length:Nat):Int)).1 (x.people.getD i.toNat default):=by
   intro p hp
   rw [ze1 o default hi,List.map_append,← hv,hp];rfl
  cases c:decide (0≤(x.people.getD (o.getD i default).toNat default).mother)<;>simp only [cond_true,cond_false]
  ·exact hn _ (key _ (by unfold zcz;rw [c];rfl))
  ·exact hn _ (key _ (by unfold zcz;rw [c];rfl))
 ·refine zbx (fun i (w:List yb)=>w=(x.unions.take i).map (zj1 (zby o ((x.people.length:Nat):Int)).1)) (fun r=>r=_) rfl (fun i w next hi hw hn=>hn _ ?_) (fun w hw=>?_)
  ·rw [ze1 x.unions default hi,List.map_append,← hw];rfl
  ·rw [List.take_length] at hv hw
   have e:yc.mk v w=zbo x o:=by rw [hv,hw];rfl
   rw [e]
theorem zvx {x:yc} (hx:za9 x=true) {o:List Int} (h:PermOk x o) (hs:∀ i j:Nat,i≤j→j<o.length→(x.people.getD (o.getD i default).toNat default).born≤(x.people.getD (o.getD j default).toNat default).born):za9 (zbo x o)=true:=by
 obtain ⟨⟨h1,h2⟩,h3,h4,h5⟩:=(zgw x).1 hx
 have hpx:=zd2 x hx
 have hlen:=h.len
 have hpl:(zbo x o).people.length=x.people.length:=by simp [zbo,hlen]
 have hul:(zbo x o).unions.length=x.unions.length:=by simp [zbo]
 have hget:∀ j:Nat,j<x.people.length→(zbo x o).people.getD j default=zcz (zby o ((x.people.length:Nat):Int)).1 (x.people.getD (o.getD j default).toNat default):=fun j hj=>zdw (fun i:Int=>zcz (zby o ((x.people.length:Nat):Int)).1 (x.people.getD i.toNat default)) (l:=o) om
 have hgu:∀ j:Nat,j<x.unions.length→(zbo x o).unions.getD j default=zj1 (zby o ((x.people.length:Nat):Int)).1 (x.unions.getD j default):=fun j hj=>zdw (zj1 (zby o ((x.people.length:Nat):Int)).1) (l:=x.unions) hj
 generalize hpos:(zby o ((x.people.length:Nat):Int)).1=pos at hget hgu
 have hp:∀ q:Int,0≤q→q<x.people.length→(0≤pos.getD q.toNat default∧pos.getD q.toNat default<x.people.length)∧o.getD (pos.getD q.toNat default).toNat default=q:=by
  rw [← hpos];exact h.pos
 have hgp:∀ q:Int,0≤q→q<x.people.length→(zbo x o).people.getD (pos.getD q.toNat default).toNat default=zcz pos (x.people.getD q.toNat default):=fun q h0 h1=>by
  obtain ⟨g1,g2⟩:=hp q h0 h1
  rw [hget _ om,g2]
 have hlt:∀ (j:Nat) (q:Int),j<x.people.length→0≤q→q<x.people.length→(x.people.getD q.toNat default).born<(x.people.getD (o.getD j default).toNat default).born→pos.getD q.toNat default<j:=by
  intro j q hj h0 h1 hb
  obtain ⟨g1,g2⟩:=hp q h0 h1
  rcases Int.lt_or_le (pos.getD q.toNat default) j with c | c
  ·exact c
  ·have:=hs j (pos.getD q.toNat default).toNat om om
   rw [g2] at this
   omega
 have hinj:∀ i j:Nat,i<o.length→j<o.length→o.getD i default=o.getD j default→i=j:=by
  intro i j hi hj e
  have e1:=(zqw o x.people.length).out h.ok
  have e2:=e1.2.2.2 i hi
  have e3:=e1.2.2.2 j hj
  rw [e] at e2
  omega
 have hP:∀ j:Nat,j<x.people.length→FamP (zbo x o) j:=by
  intro j hj
  have hr:=h.rng j om
  have p:=h3 (o.getD j default).toNat om
  have fa:=p.fa
  have mo:=p.mo
  have e:=hget j hj
  have n1:decide (0≤(-1:Int))=false:=rfl
  refine ⟨by rw [e];exact p.name,by rw [e];exact p.sex,by rw [e];exact p.born,by rw [e];exact p.died,fun i hi=>?_,?_,?_⟩
  ·rw [e,hget i om]
   have hri:=h.rng i om
   have hne:(o.getD i default).toNat≠(o.getD j default).toNat:=fun g=>by
    have:=hinj i j om om om
    omega
   show (x.people.getD (o.getD i default).toNat default).name≠(x.people.getD (o.getD j default).toNat default).name
   rcases Nat.lt_or_ge (o.getD i default).toNat (o.getD j default).toNat with g | g
   ·exact p.uniq _ g
   ·exact fun g2=>(h3 (o.getD i default).toNat om).uniq _ om g2.symm
  ·rw [e]
   rcases fa with g | g
   ·left;show (bif decide (0≤(x.people.getD (o.getD j default).toNat default).father) then _ else _)=(-1:Int);rw [g,n1];rfl
   ·right
    have ef:(zcz pos (x.people.getD (o.getD j default).toNat default)).father=pos.getD (x.people.getD (o.getD j default).toNat default).father.toNat default:=by
     show (bif decide (0≤(x.people.getD (o.getD j default).toNat default).father) then _ else _)=_
     rw [decide_eq_true g.1];rfl
    have hl:=hlt j _ hj g.1 om g.2.2.2.1
    have hpp:=hp _ g.1 om
    rw [ef,hgp _ g.1 om]
    exact ⟨hpp.1.1,hl,g.2.2.1,g.2.2.2.1,g.2.2.2.2⟩
  ·rw [e]
   rcases mo with g | g
   ·left;show (bif decide (0≤(x.people.getD (o.getD j default).toNat default).mother) then _ else _)=(-1:Int);rw [g,n1];rfl
   ·right
    have ef:(zcz pos (x.people.getD (o.getD j default).toNat default)).mother=pos.getD (x.people.getD (o.getD j default).toNat default).mother.toNat default:=by
     show (bif decide (0≤(x.people.getD (o.getD j default).toNat default).mother) then _ else _)=_
     rw [decide_eq_true g.1];rfl
    have hl:=hlt j _ hj g.1 om g.2.2.2.1
    have hpp:=hp _ g.1 om
    rw [ef,hgp _ g.1 om]
    exact ⟨hpp.1.1,hl,g.2.2.1,g.2.2.2.1,g.2.2.2.2⟩
 have hpr:Par (zbo x o):=fun j hj=>by
  have p:=hP j om
  have fa:=p.fa
  have mo:=p.mo
  omega
 refine (zgw _).2 ⟨⟨om,om⟩,fun j hj=>hP j om,?_,fun k hk=>?_⟩
 ·suffices hd:∀ n j:Nat,j<n→j<x.people.length→(zbj (zbo x o)).getD j default=(zbj x).getD (o.getD j default).toNat default by
   intro j hj
   rw [hd (j+1) j om om]
   have hr:=h.rng j om
   exact h4 _ om
  intro n
  induction n with
  | zero=>intro j hj;omega
  | succ n ih =>
   intro j hj hjn
   have hr:=h.rng j om
   rw [(zlk _ hpr).2 j om,(zlk x hpx).2 _ om]
   have p:=h3 (o.getD j default).toNat om
   have fa:=p.fa
   have mo:=p.mo
   have e:=hget j hjn
   have hj2:=hP j hjn
   have fa2:=hj2.fa
   have mo2:=hj2.mo
   have ef:0≤(x.people.getD (o.getD j default).toNat default).father→((zbo x o).people.getD j default).father=pos.getD (x.people.getD (o.getD j default).toNat default).father.toNat default:=fun g=>by
    rw [e]
    show (bif decide (0≤(x.people.getD (o.getD j default).toNat default).father) then _ else _)=_
    rw [decide_eq_true g];rfl
   have em:0≤(x.people.getD (o.getD j default).toNat default).mother→((zbo x o).people.getD j default).mother=pos.getD (x.people.getD (o.getD j default).toNat default).mother.toNat default:=fun g=>by
    rw [e]
    show (bif decide (0≤(x.people.getD (o.getD j default).toNat default).mother) then _ else _)=_
    rw [decide_eq_true g];rfl
   have ef0:¬ 0≤(x.people.getD (o.getD j default).toNat default).father→((zbo x o).people.getD j default).father=(x.people.getD (o.getD j default).toNat default).father:=fun g=>by
    rw [e]
    show (bif decide (0≤(x.people.getD (o.getD j default).toNat default).father) then _ else _)=_
    rw [decide_eq_false g];rfl
   have em0:¬ 0≤(x.people.getD (o.getD j default).toNat default).mother→((zbo x o).people.getD j default).mother=(x.people.getD (o.getD j default).toNat default).mother:=fun g=>by
    rw [e]
    show (bif decide (0≤(x.people.getD (o.getD j default).toNat default).mother) then _ else _)=_
    rw [decide_eq_false g];rfl
   have iff1:0≤((zbo x o).people.getD j default).father↔0≤(x.people.getD (o.getD j default).toNat default).father:=by
    by_cases g:0≤(x.people.getD (o.getD j default).toNat default).father
    ·rw [ef g];exact ⟨fun _=>g,fun _=>(hp _ g om).1.1⟩
    ·rw [ef0 g]
   have iff2:0≤((zbo x o).people.getD j default).mother↔0≤(x.people.getD (o.getD j default).toNat default).mother:=by
    by_cases g:0≤(x.people.getD (o.getD j default).toNat default).mother
    ·rw [em g];exact ⟨fun _=>g,fun _=>(hp _ g om).1.1⟩
    ·rw [em0 g]
   refine z0s iff1 iff2 (fun g=>?_) (fun g=>?_)
   ·have g2:=iff1.1 g
    rw [ih _ om om,ef g2,(hp _ g2 om).2]
   ·have g2:=iff2.1 g
    rw [ih _ om om,em g2,(hp _ g2 om).2]
 ·rw [hul] at hk
  have u:=h5 k hk
  have e:=hgu k hk
  have hm:=u.man;have hw:=u.woman
  have g1:((zbo x o).unions.getD k default).man=pos.getD (x.unions.getD k default).man.toNat default:=by rw [e];rfl
  have g2:((zbo x o).unions.getD k default).woman=pos.getD (x.unions.getD k default).woman.toNat default:=by rw [e];rfl
  have g3:((zbo x o).unions.getD k default).from0=(x.unions.getD k default).from0:=by rw [e];rfl
  have g4:((zbo x o).unions.getD k default).to=(x.unions.getD k default).to:=by rw [e];rfl
  have pm:=hp _ hm.1 hm.2
  have pw:=hp _ hw.1 hw.2
  refine ⟨by rw [g1];omega,by rw [g2];omega,by rw [g1,hgp _ hm.1 hm.2];exact u.msex,by rw [g2,hgp _ hw.1 hw.2];exact u.wsex,by rw [g1,g2,g3,hgp _ hm.1 hm.2,hgp _ hw.1 hw.2];exact u.from0,by rw [g3,g4];exact u.to,by rw [g1,g3,g4,hgp _ hm.1 hm.2];exact u.mdied,by rw [g2,g3,g4,hgp _ hw.1 hw.2];exact u.wdied,fun j hj=>?_⟩
  have uj:=h5 j om
  have ej:=hgu j om
  have j1:((zbo x o).unions.getD j default).man=pos.getD (x.unions.getD j default).man.toNat default:=by rw [ej];rfl
  have j2:((zbo x o).unions.getD j default).woman=pos.getD (x.unions.getD j default).woman.toNat default:=by rw [ej];rfl
  rw [g1,g2,j1,j2]
  intro q1 q2
  refine u.uniq j hj ?_ ?_
  ·have a:=(hp _ uj.man.1 uj.man.2).2;rw [q1,pm.2] at a;exact a.symm
  ·have a:=(hp _ uj.woman.1 uj.woman.2).2;rw [q2,pw.2] at a;exact a.symm
theorem zu7 {P:List ya} {U:List yb} (h:za9 ⟨P,U⟩=true) {o:List Int} (ho:o.Perm (upto U.length)):za9 ⟨P,o.map fun k=>U.getD k.toNat default⟩=true:=by
 obtain ⟨h1,h2,h3,h4⟩:=(zgw _).1 h
 have hl:o.length=U.length:=by rw [ho.length_eq,zee]
 have hr:∀ k:Nat,k<o.length→0≤o.getD k default∧o.getD k default<U.length:=fun k hk=>mem_upto.1 (ho.mem_iff.1 (zd0 hk))
 have hnd:=List.nodup_iff_pairwise_ne.1 (ho.nodup_iff.2 (zls _))
 dsimp only at h1 h4
 refine (zgw _).2 ⟨⟨h1.1,by dsimp only;rw [List.length_map];omega⟩,fun k hk=>?_,h3,fun k hk=>?_⟩
 ·have:=h2 k hk
  exact ⟨this.name,this.sex,this.born,this.died,this.uniq,this.fa,this.mo⟩
 ·dsimp only at hk
  rw [List.length_map] at hk
  have e:∀ j:Nat,j<o.length→(yc.mk P (o.map fun k=>U.getD k.toNat default)).unions.getD j default=U.getD (o.getD j default).toNat default:=fun j hj=>zdw (fun k:Int=>U.getD k.toNat default) hj
  have hrk:=hr k hk
  obtain ⟨u1,u2,u3,u4,u5,u6,u7,u8,u9⟩:=h4 (o.getD k default).toNat om
  dsimp only at u1 u2 u3 u4 u5 u6 u7 u8 u9
  refine ⟨by rw [e k hk];exact u1,by rw [e k hk];exact u2,by rw [e k hk];exact u3,by rw [e k hk];exact u4,by rw [e k hk];exact u5,by rw [e k hk];exact u6,by rw [e k hk];exact u7,by rw [e k hk];exact u8,fun j hj=>?_⟩
  rw [e k hk,e j om]
  have hrj:=hr j om
  have hne:=zkd hnd k hk j hj
  intro q1 q2
  rcases Nat.lt_or_ge (o.getD j default).toNat (o.getD k default).toNat with g | g
  ·exact u9 _ g q1 q2
  ·exact (h4 (o.getD j default).toNat om).uniq (o.getD k default).toNat om q1.symm q2.symm
def zdv (x0:yc):yc:=loopN (fun i1 (v1:(List Int)) next=>next (v1++[(x0.people.getD i1 default).born])) (fun (v1:(List Int))=>loopN (fun i2 (v2:(List Int)) next=>next (v2++[((((zeu x0 (zb7 v1)).1).unions).getD i2 default).from0])) (fun (v2:(List Int))=>loopN (fun i3 (v3:(List yb)) next=>next (v3++[((((zeu x0 (zb7 v1)).1).unions).getD (((zb7 v2).getD i3 default).toNat) default)])) (fun (v3:(List yb))=>(yc.mk (((zeu x0 (zb7 v1)).1).people) v3)) ((zb7 v2).length) 0 ([]:List yb)) ((((zeu x0 (zb7 v1)).1).unions).length) 0 ([]:List Int)) x0.people.length 0 ([]:List Int)
def zn0 (x0:yc):yc:=bif (!(za9 x0)) then (yc.mk ([]:List ya) ([]:List yb)) else (zdv x0)
def C12 (R:Bool):LV×List (Nat×BC):=(.bool R,[])
def zdh (x0:yc) (x1:yc):Bool:=bif ((!decide (((x0.people.length:Nat):Int)=((x1.people.length:Nat):Int)))||(!decide (((x0.unions.length:Nat):Int)=((x1.unions.length:Nat):Int)))) then false else (loopN (fun i1 (v1:Unit) next=>bif (!((((x0.people.getD i1 default).name)==((x1.people.getD i1 default).name))&&((decide (((x0.people.getD i1 default).sex)=((x1.people.getD i1 default).sex)))&&((decide (((x0.people.getD i1 default).father)=((x1.people.getD i1 default).father)))&&((decide (((x0.people.getD i1 default).mother)=((x1.people.getD i1 default).mother)))&&((decide (((x0.people.getD i1 default).born)=((x1.people.getD i1 default).born)))&&((decide (((x0.people.getD i1 default).died)=((x1.people.getD i1 default).died)))&&true))))))) then false else (next ())) (fun (v1:Unit)=>loopN (fun i2 (v2:Unit) next=>bif (!((decide (((x0.unions.getD i2 default).man)=((x1.unions.getD i2 default).man)))&&((decide (((x0.unions.getD i2 default).woman)=((x1.unions.getD i2 default).woman)))&&((decide (((x0.unions.getD i2 default).from0)=((x1.unions.getD i2 default).from0)))&&((decide (((x0.unions.getD i2 default).to)=((x1.unions.getD i2 default).to)))&&true))))) then false else (next ())) (fun (v2:Unit)=>true) x0.unions.length 0 ()) x0.people.length 0 ())
def D12b1 (i1:Nat) (v1:Unit):Dl:=⟨[(26,.int .i64 ((i1:Nat):Int))],[]⟩
def D12b2 (i2:Nat) (v2:Unit):Dl:=⟨[(44,.int .i64 ((i2:Nat):Int))],[]⟩
def A12b2 (x0:yc) (x1:yc) (i2:Nat) (v2:Unit):Ann:=let q1:=((i2:Nat):Int);let q5:=(q1:Int);let q2:=x0.unions.getD i2 default;let q3:=x1.unions.getD i2 default;let q4:=((x0.unions.length:Nat):Int);r0 1 [2,3,4,43,44,45] [2,3] (cn (decide (q1<q4)) (r1 2 [2,3,4,43,44,57] [2,3] [pf (0≤q5∧q5<q4),pf (0≤q5∧q5<((x1.unions.length:Nat):Int))] [0,4] (cn (!((decide ((q2.man)=(q3.man)))&&((decide ((q2.woman)=(q3.woman)))&&((decide ((q2.from0)=(q3.from0)))&&((decide ((q2.to)=(q3.to)))&&true))))) (r0 1 [2,3,4,43,44] [2,3] (rt [] (C12 false))) (r1 1 [2,3,4,43,44] [2,3] [pf (inR .i64 (q1+1))] [0] (.next 0 [] (D12b2 (i2+1) ()))))) (r0 1 [4] [] (rt [] (C12 true))))
def A12b1 (x0:yc) (x1:yc) (i1:Nat) (v1:Unit):Ann:=let q3:=((i1:Nat):Int);let q5:=(q3:Int);let q1:=x0.people.getD i1 default;let q2:=x1.people.getD i1 default;let q4:=((x0.people.length:Nat):Int);r0 1 [2,3,4,25,26,27] [2,3] (cn (decide (q3<q4)) (r1 2 [2,3,4,25,26,39] [2,3] [pf (0≤q5∧q5<q4),pf (0≤q5∧q5<((x1.people.length:Nat):Int))] [0,4] (cn (!(((q1.name)==(q2.name))&&((decide ((q1.sex)=(q2.sex)))&&((decide ((q1.father)=(q2.father)))&&((decide ((q1.mother)=(q2.mother)))&&((decide ((q1.born)=(q2.born)))&&((decide ((q1.died)=(q2.died)))&&true))))))) (r0 1 [2,3,4,25,26] [2,3] (rt [] (C12 false))) (r1 1 [2,3,4,25,26] [2,3] [pf (inR .i64 (q3+1))] [0] (.next 0 [] (D12b1 (i1+1) ()))))) (r0 1 [2,3,4,43,44] [2,3] (lp (D12b2) [] [] [] (D12b2 0 ()) (A12b2 x0 x1))))
def A12 (x0:yc) (x1:yc):Ann:=let q1:=(((x0.people.length:Nat):Int)=((x1.people.length:Nat):Int));r0 1 [2,3,4] [2,3] (.reg 1 [] [] [2,3,4,22] [2,3] [!(!decide q1),!decide q1] [] [] [1,1,1,1,1,1,6] (cn ((!decide q1)||(!decide (((x0.unions.length:Nat):Int)=((x1.unions.length:Nat):Int)))) (r0 1 [2,3,4] [2,3] (rt [] (C12 false))) (r0 1 [2,3,4,25,26] [2,3] (lp (D12b1) [] [] [] (D12b1 0 ()) (A12b1 x0 x1)))))
theorem zh8 (x0:yc) (x1:yc) (h1:x0.people.length≤1000∧x0.unions.length≤1000) (h2:x1.people.length≤1000∧x1.unions.length≤1000):FnT Tryz.prog 12 [.agg (zcf false x0),.agg (zcf false x1)] (C12 (zdh x0 x1)):=by
 have aux:∀ R,zdh x0 x1=R→slim (C12 R) (A12 x0 x1) []:=by
  intro R hR
  refine rg trivial ?_
  refine rg trivial ?_
  revert hR;refine cd (fun hc1 hR=>?_) fun hc1 hR=>?_
  ·
    refine rg trivial ?_
    exact congrArg C12 hR
  ·
    refine rg trivial ?_
    revert hR;refine lN (fun i v=>True) za3 rfl fun i1 v1 F1 hn1 hI1 hR hK1=>?_
    refine rg trivial ?_
    refine ⟨fun hc2=>?_,fun hc2=>?_⟩
    · have hii1:i1<x0.people.length:=by have:=of_decide_eq_true hc2;omega
      replace hR:=zbq hR hii1
      refine rg ⟨by (intros;omega),by (simp only [Bool.or_eq_false_iff,Bool.not_eq_false',decide_eq_true_eq] at hc1;omega),trivial⟩ ?_
      revert hR;refine cd (fun hc3 hR=>?_) fun hc3 hR=>?_
      ·
        refine rg trivial ?_
        exact congrArg C12 hR
      ·
        refine rg ⟨by ( intros;simp only [inR];omega),trivial⟩ ?_
        exact hK1 () hii1 za3 hR
    · obtain rfl:i1=x0.people.length:=by have:=of_decide_eq_false hc2;omega
      replace hR:=zbu hR (Nat.lt_irrefl _)
      refine rg trivial ?_
      revert hR;refine lN (fun i v=>True) za3 rfl fun i2 v2 F2 hn2 hI2 hR hK2=>?_
      refine rg trivial ?_
      refine ⟨fun hc4=>?_,fun hc4=>?_⟩
      · have hii2:i2<x0.unions.length:=by have:=of_decide_eq_true hc4;omega
        replace hR:=zbq hR hii2
        refine rg ⟨by (intros;omega),by (simp only [Bool.or_eq_false_iff,Bool.not_eq_false',decide_eq_true_eq] at hc1;omega),trivial⟩ ?_
        revert hR;refine cd (fun hc5 hR=>?_) fun hc5 hR=>?_
        ·
          refine rg trivial ?_
          exact congrArg C12 hR
        ·
          refine rg ⟨by ( intros;simp only [inR];omega),trivial⟩ ?_
          exact hK2 () hii2 za3 hR
      · obtain rfl:i2=x0.unions.length:=by have:=of_decide_eq_false hc4;omega
        replace hR:=zbu hR (Nat.lt_irrefl _)
        refine rg trivial ?_
        exact congrArg C12 hR
 exact Fn.go 59 Tryz.func12 (by kernel_rfl) (by kernel_rfl) (by simp [C12,Frs,FrsL]) (A12 x0 x1) (by kernel_rfl) (aux _ rfl)
def k12 (x0:yc) (x1:yc):Cl:=(hres (C12 (zdh x0 x1)),k2 (zh8 x0 x1))
end Go.Proofs.YtlinnkjieghmhaaGreatDoor
