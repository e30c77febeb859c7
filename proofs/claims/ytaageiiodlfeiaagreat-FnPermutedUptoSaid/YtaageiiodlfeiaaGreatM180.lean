import Derived.Test.YtaageiiodlfeiaaGreatM182
set_option maxHeartbeats 4000000
set_option linter.unusedSimpArgs false
set_option linter.unusedVariables false
namespace Go.Proofs.YtaageiiodlfeiaaGreat
open Go Go.Lite Go.Proofs
theorem zrp {S α : Type} {b1 b2 : Nat → S → (S → α) → α} {k : S → α} : ∀ (m i : Nat) (s : S), (∀ j v next, i ≤ j → j < i + m → b1 j v next = b2 j v next) → loopN b1 k m i s = loopN b2 k m i s
  | 0,i,s,_=>rfl
  | m+1,i,s,h=>by
    simp only [loopN]
    rw [h i s _ (Nat.le_refl _) om]
    congr 1
    funext s'
    exact zrp m (i+1) s' fun j v next h1 h2=>h j v next om om
theorem zog {β : Type} (p : Nat → Bool) (g : Nat → β) : ∀ (m i : Nat) (l : List β), loopN (fun i (v : List β) next => bif p i then next (v ++ [g i]) else next v) (fun v => v) m i l = l ++ ((List.range' i m).filter p).map g
  | 0,i,l=>by simp [loopN]
  | m+1,i,l=>by
    simp only [loopN]
    rw [List.range'_succ,List.filter_cons]
    cases p i
    · simp only [cond_false,Bool.false_eq_true,if_false]
      exact zog p g m (i+1) l
    · simp only [cond_true,if_true,List.map_cons]
      rw [zog p g m (i+1) (l++[g i])]
      simp
theorem zki {β:Type} (p:Nat→Bool) (g:Nat→β) (n:Nat):loopN (fun i (v:List β) next=>bif p i then next (v++[g i]) else next v) (fun v=>v) n 0 []=((List.range n).filter p).map g:=by
 rw [zog,List.range_eq_range'];rfl
theorem zs5 {β : Type} {p q : Nat → Bool} {g h : Nat → β} {m n : Nat} (hmn : m ≤ n) (h1 : ∀ i, i < m → p i = q i) (h2 : ∀ i, m ≤ i → i < n → q i = false) (h3 : ∀ i, i < m → p i = true → g i = h i) :
    ((List.range m).filter p).map g=((List.range n).filter q).map h:=by
 obtain ⟨d,rfl⟩:∃ d,n=m+d:=⟨n - m,om⟩
 have e:(List.range (m+d)).filter q=(List.range m).filter p:=by
  rw [List.range_add,List.filter_append]
  have e2 : ((List.range d).map (m + ·)).filter q = [] := by
   rw [List.filter_eq_nil_iff]
   intro a ha
   obtain ⟨b,hb,rfl⟩:=List.mem_map.1 ha
   rw [h2 _ om (by have:=List.mem_range.1 hb;omega)]
   simp
  rw [e2,List.append_nil]
  exact (List.filter_congr fun a ha=>(h1 a (List.mem_range.1 ha))).symm
 rw [e]
 apply List.map_congr_left
 intro a ha
 obtain ⟨ha1,ha2⟩:=List.mem_filter.1 ha
 exact h3 a (List.mem_range.1 ha1) ha2

def clipP (y:Int) (p:Person):Person:=⟨p.name,p.sex,p.father,p.mother,p.born,bif decide (y<p.died) then -1 else p.died⟩
def clipU (y:Int) (u:Union):Union:=⟨u.man,u.woman,u.from0,bif decide (y<u.to) then -1 else u.to⟩
structure Early (x k:Family) (y:Int):Prop where
 pl:k.people.length≤x.people.length
 pg:∀ i:Nat,i<k.people.length→k.people.getD i default=clipP y (x.people.getD i default)∧(x.people.getD i default).born≤y
 pr:∀ i:Nat,k.people.length≤i→i<x.people.length→y<(x.people.getD i default).born
 ul:k.unions.length≤x.unions.length
 ug:∀ i:Nat,i<k.unions.length→k.unions.getD i default=clipU y (x.unions.getD i default)∧(x.unions.getD i default).from0≤y
 ur:∀ i:Nat,k.unions.length≤i→i<x.unions.length→y<(x.unions.getD i default).from0

def dOf (x:Family) (l:List Int) (i:Nat):Int :=
 bif (decide (0 ≤ ((x.people.getD i default).father))) then (bif (decide (0 ≤ ((x.people.getD i default).mother))) then Max.max ((l.getD (((x.people.getD i default).father).toNat) default) + 1) ((l.getD (((x.people.getD i default).mother).toNat) default) + 1) else (l.getD (((x.people.getD i default).father).toNat) default) + 1) else
   (bif (decide (0≤((x.people.getD i default).mother))) then Max.max 0 ((l.getD (((x.people.getD i default).mother).toNat) default)+1) else 0)
theorem zz9 {x z : Family} {l m : List Int} {i j : Nat} (hf : (0 ≤ (x.people.getD i default).father ↔ 0 ≤ (z.people.getD j default).father)) (hm : (0 ≤ (x.people.getD i default).mother ↔ 0 ≤ (z.people.getD j default).mother))
    (h1:0≤(x.people.getD i default).father→l.getD (x.people.getD i default).father.toNat default=m.getD (z.people.getD j default).father.toNat default)
    (h2:0≤(x.people.getD i default).mother→l.getD (x.people.getD i default).mother.toNat default=m.getD (z.people.getD j default).mother.toNat default):dOf x l i=dOf z m j:=by
 unfold dOf
 rw [show decide (0≤(z.people.getD j default).father)=decide (0≤(x.people.getD i default).father) from decide_eq_decide.2 hf.symm,show decide (0≤(z.people.getD j default).mother)=decide (0≤(x.people.getD i default).mother) from decide_eq_decide.2 hm.symm]
 cases c1:decide (0≤(x.people.getD i default).father)<;>cases c2:decide (0≤(x.people.getD i default).mother)<;>simp only [cond_true,cond_false]
 ·rw [h2 (of_decide_eq_true c2)]
 ·rw [h1 (of_decide_eq_true c1)]
 ·rw [h1 (of_decide_eq_true c1),h2 (of_decide_eq_true c2)]
def zyl (x:Family) (r:List Int):Prop:=r.length=x.people.length∧∀ i:Nat,i<x.people.length→r.getD i default=dOf x r i
theorem ztc (x:Family) (hp:Par x):(zbi x).length=x.people.length∧∀ i:Nat,i<x.people.length→(zbi x).getD i default=dOf x (zbi x) i:=by
 suffices key:zyl x (zbi x) from key
 unfold zbi
 refine zb3 (fun i (v:List Int)=>v.length=i∧∀ j:Nat,j<i→v.getD j default=dOf x v j) (zyl x) ⟨rfl,fun j hj=>absurd hj (Nat.not_lt_zero _)⟩ (fun i v next hi hv hn=>?_) (fun v hv=>hv)
 obtain ⟨hl,hd⟩:=hv
 have key:∀ d:Int,d=dOf x v i→(v++[d]).length=i+1∧∀ j:Nat,j<i+1→(v++[d]).getD j default=dOf x (v++[d]) j:=by
  intro d e
  refine ⟨by simp [hl],fun j hj=>?_⟩
  have hpj:=hp j om
  have e2:dOf x (v++[d]) j=dOf x v j:=by
   refine zz9 Iff.rfl Iff.rfl (fun h=>?_) (fun h=>?_)
   ·rw [zdu,if_pos om]
   ·rw [zdu,if_pos om]
  rw [e2,zdu]
  by_cases c:j<v.length
  ·rw [if_pos c];exact hd j om
  ·have:j=i:=by omega
   subst this
   rw [if_neg c,if_pos om];exact e
 have e0:dOf x v i=dOf x v i:=rfl
 unfold dOf at e0
 cases c1 : decide (0 ≤ (x.people.getD i default).father) <;> cases c2 : decide (0 ≤ (x.people.getD i default).mother) <;> simp only [c1, c2, cond_true, cond_false] <;>
   (refine hn _ (key _ ?_);unfold dOf;simp only [c1,c2,cond_true,cond_false])

theorem Early.fam {x k:Family} {y:Int} (h:Early x k y) (hx:za4 x=true):za4 k=true:=by
 obtain ⟨⟨h1,h2⟩,h3,h4,h5⟩:=(zie x).1 hx
 have hpl:=h.pl
 have hul:=h.ul
 have hin:∀ q:Int,0≤q→q<x.people.length→(x.people.getD q.toNat default).born≤y→q<k.people.length:=by
  intro q h0 hq hb
  rcases Int.lt_or_le q k.people.length with c | c
  ·exact c
  ·have:=h.pr q.toNat om om;omega
 have hc:∀ (d b:Int),(bif decide (y<d) then (-1:Int) else d)=-1∨(bif decide (y<d) then (-1:Int) else d)=d:=by
  intro d b;cases decide (y<d)
  ·exact .inr rfl
  ·exact .inl rfl
 have hP:∀ i:Nat,i<k.people.length→FamP k i:=by
  intro i hi
  have p:=h3 i om
  have fa:=p.fa
  have mo:=p.mo
  refine ⟨?_,?_,?_,?_,fun j hj=>?_,?_,?_⟩
  ·rw [(h.pg i hi).1];exact p.name
  ·rw [(h.pg i hi).1];exact p.sex
  ·rw [(h.pg i hi).1];exact p.born
  ·rw [(h.pg i hi).1]
   have hd:=p.died
   dsimp only [clipP]
   rcases hc (x.people.getD i default).died 0 with e | e<;>rw [e]<;>omega
  ·rw [(h.pg i hi).1,(h.pg j om).1];exact p.uniq j hj
  ·rw [(h.pg i hi).1]
   dsimp only [clipP]
   refine fa.imp id fun f=>?_
   rw [(h.pg _ om).1]
   dsimp only [clipP]
   have hd:=f.2.2.2.2
   refine ⟨f.1,f.2.1,f.2.2.1,f.2.2.2.1,?_⟩
   rcases hc (x.people.getD (x.people.getD i default).father.toNat default).died 0 with e | e<;>rw [e]<;>omega
  ·rw [(h.pg i hi).1]
   dsimp only [clipP]
   refine mo.imp id fun f=>?_
   rw [(h.pg _ om).1]
   dsimp only [clipP]
   have hd:=f.2.2.2.2
   refine ⟨f.1,f.2.1,f.2.2.1,f.2.2.2.1,?_⟩
   rcases hc (x.people.getD (x.people.getD i default).mother.toNat default).died 0 with e | e<;>rw [e]<;>omega
 have hpk:Par k:=fun i hi=>by
  have p:=hP i hi
  have fa:=p.fa
  have mo:=p.mo
  omega
 have hpx:=zbn x hx
 refine (zie k).2 ⟨⟨om,om⟩,hP,?_,fun i hi=>?_⟩
 ·suffices hd:∀ n i:Nat,i<n→i<k.people.length→(zbi k).getD i default=(zbi x).getD i default by
   intro i hi
   rw [hd (i+1) i om hi]
   exact h4 i om
  intro n
  induction n with
  | zero=>intro i hi;omega
  | succ n ih =>
   intro i hi hik
   rw [(ztc k hpk).2 i hik,(ztc x hpx).2 i om]
   have hpi:=hpx i om
   have ef:(k.people.getD i default).father=(x.people.getD i default).father:=by rw [(h.pg i hik).1];rfl
   have em:(k.people.getD i default).mother=(x.people.getD i default).mother:=by rw [(h.pg i hik).1];rfl
   refine zz9 (by rw [ef]) (by rw [em]) (fun g=>?_) (fun g=>?_)
   ·rw [ef] at g ⊢;exact ih _ om om
   ·rw [em] at g ⊢;exact ih _ om om
 ·have u:=h5 i om
  obtain ⟨e,hy⟩:=h.ug i hi
  have hman:=u.man;have hwoman:=u.woman;have hfrom:=u.from0;have hto:=u.to;have hm:=u.mdied;have hw:=u.wdied
  have hmk:=hin _ hman.1 hman.2 om
  have hwk:=hin _ hwoman.1 hwoman.2 om
  have em:=(h.pg (x.unions.getD i default).man.toNat om).1
  have ew:=(h.pg (x.unions.getD i default).woman.toNat om).1
  have g1:(k.unions.getD i default).man=(x.unions.getD i default).man:=by rw [e];rfl
  have g2:(k.unions.getD i default).woman=(x.unions.getD i default).woman:=by rw [e];rfl
  have g3:(k.unions.getD i default).from0=(x.unions.getD i default).from0:=by rw [e];rfl
  have g4:(k.unions.getD i default).to=bif decide (y<(x.unions.getD i default).to) then -1 else (x.unions.getD i default).to:=by rw [e];rfl
  refine ⟨by rw [g1];omega,by rw [g2];omega,by rw [g1,em];exact u.msex,by rw [g2,ew];exact u.wsex,by rw [g1,g2,g3,em,ew];exact hfrom,?_,?_,?_,fun j hj=>?_⟩
  ·rw [g4,g3]
   rcases hc (x.unions.getD i default).to 0 with e1 | e1<;>rw [e1]<;>omega
  ·rw [g1,em,g3,g4]
   dsimp only [clipP]
   generalize (x.people.getD (x.unions.getD i default).man.toNat default).died=d at hm ⊢
   by_cases c1:y<d<;>by_cases c2:y<(x.unions.getD i default).to<;>simp only [c1,c2,decide_true,decide_false,cond_true,cond_false,true_or,or_true]<;>omega
  ·rw [g2,ew,g3,g4]
   dsimp only [clipP]
   generalize (x.people.getD (x.unions.getD i default).woman.toNat default).died=d at hw ⊢
   by_cases c1:y<d<;>by_cases c2:y<(x.unions.getD i default).to<;>simp only [c1,c2,decide_true,decide_false,cond_true,cond_false,true_or,or_true]<;>omega
  ·rw [g1,g2,(h.ug j om).1];exact u.uniq j hj

theorem Early.parents {x k:Family} {y:Int} (h:Early x k y) {p:Int} (hp:0≤p∧p<k.people.length):zbe k p=zbe x p:=by
 unfold zbe
 rw [(h.pg p.toNat om).1]
 rfl
theorem Early.up {x k:Family} {y:Int} (h:Early x k y) (hx:za4 x=true) {p:Int} (hp:0≤p∧p<k.people.length) (m:Nat) (q:Int):Up k p m q↔Up x p m q:=by
 have hk:=zbn k (h.fam hx)
 have hpx:=zbn x hx
 have hpl:=h.pl
 constructor
 ·intro hu
  induction hu with
  | zero=>exact .zero
  | step hu hq ih =>
   have:=hu.rng hk hp
   rw [h.parents ⟨this.1,this.2.1⟩] at hq
   exact .step ih hq
 ·intro hu
  induction hu with
  | zero=>exact .zero
  | step hu hq ih =>
   have:=hu.rng hpx ⟨hp.1,om⟩
   rw [← h.parents ⟨this.1,om⟩] at hq
   exact .step ih hq
theorem Early.ups {x k : Family} {y : Int} (h : Early x k y) (hx : za4 x = true) {p : Int} (hp : 0 ≤ p ∧ p < k.people.length) :
    (∀ j:Nat,j<k.people.length→(l8Up k p).getD j default=(l8Up x p).getD j default)∧∀ j:Nat,k.people.length≤j→j<x.people.length→(l8Up x p).getD j default<0:=by
 have hk:=zbn k (h.fam hx)
 have hpx:=zbn x hx
 have hpl:=h.pl
 have dk:=zev k p hk hp
 have dx:=zev x p hpx ⟨hp.1,om⟩
 constructor
 ·intro j hj
  rcases Int.lt_or_le ((l8Up k p).getD j default) 0 with c | c
  ·obtain ⟨a1,a2⟩:=dk.no j hj c
   rcases Int.lt_or_le ((l8Up x p).getD j default) 0 with c' | c'
   ·rw [a1,(dx.no j om c').1]
   ·exact absurd ((h.up hx hp _ _).2 (dx.yes j om c').1) (a2 _)
  ·obtain ⟨a1,a2⟩:=dk.yes j hj c
   rcases Int.lt_or_le ((l8Up x p).getD j default) 0 with c' | c'
   ·exact absurd ((h.up hx hp _ _).1 a1) ((dx.no j om c').2 _)
   ·obtain ⟨b1,b2⟩:=dx.yes j om c'
    have:=a2 _ ((h.up hx hp _ _).2 b1)
    have:=b2 _ ((h.up hx hp _ _).1 a1)
    omega
 ·intro j hj hjx
  rcases Int.lt_or_le ((l8Up x p).getD j default) 0 with c | c
  ·exact c
  ·have:=((dx.yes j hjx c).1).rng hpx ⟨hp.1,om⟩
   omega
theorem zwy {x:Family} (hx:za4 x=true) {p:Int} (hp:0≤p∧p<x.people.length):(l8Up x p).length=x.people.length:=(zev x p (zbn x hx) hp).len
theorem zlp (x:Family) (a b:Int):zeo x a b=((List.range (l8Up x a).length).filter fun i=>(decide (0≤((l8Up x a).getD i default)))&&(decide (0≤((l8Up x b).getD i default)))).map fun i=>((i:Nat):Int):=by
 unfold zeo;exact zki _ _ _
theorem Early.common {x k:Family} {y:Int} (h:Early x k y) (hx:za4 x=true) {a b:Int} (ha:0≤a∧a<k.people.length) (hb:0≤b∧b<k.people.length):zeo k a b=zeo x a b:=by
 have hpl:=h.pl
 have hk:=h.fam hx
 rw [zlp,zlp,zwy hk ha,zwy hx ⟨ha.1,om⟩]
 refine zs5 hpl (fun i hi=>?_) (fun i h1 h2=>?_) (fun _ _ _=>rfl)
 ·rw [(h.ups hx ha).1 i hi,(h.ups hx hb).1 i hi]
 ·rw [decide_eq_false (by have:=(h.ups hx ha).2 i h1 h2;omega)];rfl
theorem Early.scommon {x k:Family} {y:Int} (h:Early x k y) (hx:za4 x=true) {a b:Int} (ha:0≤a∧a<k.people.length) (hb:0≤b∧b<k.people.length):zb2 k a b=zb2 x a b:=by
 have hpl:=h.pl
 rw [ze9 (h.fam hx) ha hb,ze9 hx ⟨ha.1,om⟩ ⟨hb.1,om⟩,h.common hx ha hb]
theorem Early.cups {x k : Family} {y : Int} (h : Early x k y) (hx : za4 x = true) {a b c : Int} (ha : 0 ≤ a ∧ a < k.people.length) (hb : 0 ≤ b ∧ b < k.people.length) (hc : 0 ≤ c ∧ c < k.people.length) {i : Nat} (hi : i < (zb2 x a b).length) :
    (l8Up k c).getD (((zb2 x a b).getD i default).toNat) default=(l8Up x c).getD (((zb2 x a b).getD i default).toNat) default:=by
 have hg:=ziz (x:=k) (a:=a) (b:=b) (k:=i) (by rw [h.scommon hx ha hb];exact hi)
 rw [h.scommon hx ha hb] at hg
 exact (h.ups hx hc).1 _ (by have:=hg.2.1;have:=hg.2.2.1;omega)
theorem Early.link {x k:Family} {y:Int} (h:Early x k y) (hx:za4 x=true) {a b:Int} (ha:0≤a∧a<k.people.length) (hb:0≤b∧b<k.people.length):zdc k a b=zdc x a b:=by
 unfold zdc
 rw [h.scommon hx ha hb]
 refine zrp _ _ _ fun i v next _ hi=>?_
 rw [h.cups hx ha hb ha om,h.cups hx ha hb hb om]
theorem Early.canon {x k:Family} {y:Int} (h:Early x k y) (hx:za4 x=true) {a b:Int} (ha:0≤a∧a<k.people.length) (hb:0≤b∧b<k.people.length):zgb k a b=zgb x a b:=by
 unfold zgb
 rw [h.scommon hx ha hb]
 refine zrp _ _ _ fun i v next _ hi=>?_
 rw [h.cups hx ha hb ha om,h.cups hx ha hb hb om]
theorem Early.close {x k:Family} {y:Int} (h:Early x k y) (hx:za4 x=true) {a b:Int} (ha:0≤a∧a<k.people.length) (hb:0≤b∧b<k.people.length) (d:Int):zho k a b d=zho x a b d:=by
 unfold zho zjr
 rw [h.link hx ha hb]
theorem Early.uin {x k : Family} {y : Int} (h : Early x k y) (hx : za4 x = true) {i : Nat} (hi : i < k.unions.length) :
    (0≤(x.unions.getD i default).man∧(x.unions.getD i default).man<k.people.length)∧(0≤(x.unions.getD i default).woman∧(x.unions.getD i default).woman<k.people.length):=by
 have u:=fam_u (h.fam hx) hi
 have h1:=u.man
 have h2:=u.woman
 rw [(h.ug i hi).1] at h1 h2
 exact ⟨h1,h2⟩
theorem Early.other {x k:Family} {y:Int} (h:Early x k y) {i:Nat} (hi:i<k.unions.length) (p:Int):zcu (k.unions.getD i default) p=zcu (x.unions.getD i default) p:=by
 rw [(h.ug i hi).1];rfl
theorem Early.affine {x k:Family} {y:Int} (h:Early x k y) (hx:za4 x=true) {b:Int} (hb:0≤b∧b<k.people.length) (a d:Int):zhp k a b y d=zhp x a b y d:=by
 have hul:=h.ul
 have hrow : ∀ i, i < k.unions.length → (((((zcu (k.unions.getD i default) a).2) && (!decide (((zcu (k.unions.getD i default) a).1) = b))) && (decide (((k.unions.getD i default).from0) ≤ y))) && (zho k ((zcu (k.unions.getD i default) a).1) b d)) =
     (((((zcu (x.unions.getD i default) a).2)&&(!decide (((zcu (x.unions.getD i default) a).1)=b)))&&(decide (((x.unions.getD i default).from0)≤y)))&&(zho x ((zcu (x.unions.getD i default) a).1) b d)):=by
  intro i hi
  have hin:=h.uin hx hi
  have ho:0≤(zcu (x.unions.getD i default) a).1∧(zcu (x.unions.getD i default) a).1<k.people.length:=by
   unfold zcu
   cases decide ((x.unions.getD i default).man=a)
   ·exact hin.1
   ·exact hin.2
  rw [h.other hi,h.close hx ho hb,show (k.unions.getD i default).from0=(x.unions.getD i default).from0 by rw [(h.ug i hi).1];rfl]
 apply Bool.eq_iff_iff.2
 unfold zhp
 rw [zia,zia]
 constructor
 ·rintro (⟨j,hj,hc⟩ | hc)
  ·exact .inl ⟨j,om,by rw [← hrow j hj];exact hc⟩
  ·exact .inr hc
 ·rintro (⟨j,hj,hc⟩ | hc)
  ·rcases Nat.lt_or_ge j k.unions.length with g | g
   ·exact .inl ⟨j,g,by rw [hrow j g];exact hc⟩
   ·have:=h.ur j g hj
    rw [decide_eq_false (show ¬ (x.unions.getD j default).from0≤y by omega),Bool.and_false,Bool.false_and] at hc
    cases hc
  ·exact .inr hc
theorem Early.ended {x k : Family} {y : Int} (h : Early x k y) (hx : za4 x = true) {i : Nat} (hi : i < k.unions.length) :
    ((!((l1End k (k.unions.getD i default)).2))||(decide (y<((l1End k (k.unions.getD i default)).1))))=((!((l1End x (x.unions.getD i default)).2))||(decide (y<((l1End x (x.unions.getD i default)).1)))):=by
 have hul:=h.ul
 have u:=fam_u hx (k:=i) om
 have hin:=h.uin hx hi
 obtain ⟨e,hy⟩:=h.ug i hi
 have em:=(h.pg (x.unions.getD i default).man.toNat om).1
 have ew:=(h.pg (x.unions.getD i default).woman.toNat om).1
 have g1:(k.unions.getD i default).man=(x.unions.getD i default).man:=by rw [e];rfl
 have g2:(k.unions.getD i default).woman=(x.unions.getD i default).woman:=by rw [e];rfl
 have g4:(k.unions.getD i default).to=bif decide (y<(x.unions.getD i default).to) then -1 else (x.unions.getD i default).to:=by rw [e];rfl
 have d1:(k.people.getD (x.unions.getD i default).man.toNat default).died=bif decide (y<(x.people.getD (x.unions.getD i default).man.toNat default).died) then -1 else (x.people.getD (x.unions.getD i default).man.toNat default).died:=by rw [em];rfl
 have d2:(k.people.getD (x.unions.getD i default).woman.toNat default).died=bif decide (y<(x.people.getD (x.unions.getD i default).woman.toNat default).died) then -1 else (x.people.getD (x.unions.getD i default).woman.toNat default).died:=by rw [ew];rfl
 have hf:=u.from0;have ht:=u.to;have hm:=u.mdied;have hw:=u.wdied
 have b1:=(fam_p hx (k:=(x.unions.getD i default).man.toNat) (by have:=u.man;omega)).born
 have b2:=(fam_p hx (k:=(x.unions.getD i default).woman.toNat) (by have:=u.woman;omega)).born
 unfold l1End
 rw [g1,g2,g4,d1,d2]
 generalize (x.people.getD (x.unions.getD i default).man.toNat default).died=dm at hm ⊢
 generalize (x.people.getD (x.unions.getD i default).woman.toNat default).died=dw at hw ⊢
 generalize (x.people.getD (x.unions.getD i default).man.toNat default).born=bm at hf b1 ⊢
 generalize (x.people.getD (x.unions.getD i default).woman.toNat default).born=bw at hf b2 ⊢
 generalize (x.unions.getD i default).to=t at ht hm hw ⊢
 generalize (x.unions.getD i default).from0=f0 at hf ht hm hw hy ⊢
 have n1:decide (0≤(-1:Int))=false:=rfl
 have n2:decide ((-1:Int)<0)=true:=rfl
 clear em ew g1 g2 g4 d1 d2 e hin u h hx hi hul
 by_cases c1 : y < t <;> by_cases c2 : y < dm <;> by_cases c3 : y < dw <;> by_cases c4 : 0 ≤ t <;> by_cases c5 : dm < 0 <;> by_cases c6 : dw < 0 <;> by_cases c7 : dw < dm <;>
   simp only [c1,c2,c3,c4,c5,c6,c7,n1,n2,decide_true,decide_false,cond_true,cond_false,Bool.true_and,Bool.and_true,Bool.false_and,Bool.and_false,Bool.true_or,Bool.or_true,Bool.false_or,Bool.or_false,Bool.not_true,Bool.not_false,show (0≤dw↔¬ dw<0) by omega,not_true_eq_false,not_false_eq_true]<;>omega
theorem Early.married {x k:Family} {y:Int} (h:Early x k y) (hx:za4 x=true) {p:Int} (hp:0≤p∧p<k.people.length):ze3 k p y=ze3 x p y:=by
 have hpl:=h.pl
 have e1:l1Has k p=true:=(zed k p).2 ⟨hp,h.fam hx⟩
 have e2:l1Has x p=true:=(zed x p).2 ⟨⟨hp.1,om⟩,hx⟩
 unfold ze3
 rw [e1,e2]
 simp only [Bool.not_true,cond_false]
 rw [zki,zki]
 refine zs5 h.ul (fun i hi=>?_) (fun i h1 h2=>?_) (fun i hi _=>by rw [h.other hi])
 ·rw [h.other hi,h.ended hx hi,show (k.unions.getD i default).from0=(x.unions.getD i default).from0 by rw [(h.ug i hi).1];rfl]
 ·rw [decide_eq_false (show ¬ (x.unions.getD i default).from0≤y by have:=h.ur i h1 h2;omega),Bool.and_false,Bool.false_and]
end Go.Proofs.YtaageiiodlfeiaaGreat
