import Derived.Test.YtlinnkjieghmhaaGreatDoorVS79
set_option maxHeartbeats 4000000
set_option linter.unusedSimpArgs false
set_option linter.unusedVariables false
namespace Go.Proofs.YtlinnkjieghmhaaGreatDoor
open Go Go.Lite Go.Proofs
theorem z2o {x:yc} (hx:za9 x=true):evts x=zbm (zdv x):=by
 have hf:=(zn2 hx).1
 rw [zg6]
 unfold evts
 rw [zpo hx]
 revert hf
 generalize zdv x=z
 intro hf
 have e1:∀ i:Nat,i<z.unions.length→(!decide (((z.unions.getD i default).to)=(-1)))=decide (0≤(z.unions.getD i default).to):=fun i hi=>by
  have h:=fam_u hf hi
  have h1:=h.to
  have h2:=h.from0
  have h3:=(fam_p hf (k:=(z.unions.getD i default).man.toNat) (by have:=h.man;omega)).born
  by_cases c:(z.unions.getD i default).to=-1
  ·rw [decide_eq_true c,decide_eq_false om];rfl
  ·rw [decide_eq_false c,decide_eq_true om];rfl
 have e2:∀ i:Nat,i<z.people.length→(!decide (((z.people.getD i default).died)=(-1)))=decide (0≤(z.people.getD i default).died):=fun i hi=>by
  have h:=fam_p hf hi
  have h1:=h.died
  have h2:=h.born
  by_cases c:(z.people.getD i default).died=-1
  ·rw [decide_eq_true c,decide_eq_false om];rfl
  ·rw [decide_eq_false c,decide_eq_true om];rfl
 rw [zg2 (fun p:ya=>yd.mk 1 p.born p.name p.sex p.father p.mother),zg2 (fun u:yb=>yd.mk 2 u.from0 ([]:List UInt8) 0 u.man u.woman),List.nil_append,zje,zje]
 rw [List.filter_congr (q:=fun i=>decide (0≤(z.unions.getD i default).to)) (fun i hi=>e1 i (List.mem_range.1 hi)),List.filter_congr (q:=fun i=>decide (0≤(z.people.getD i default).died)) (fun i hi=>e2 i (List.mem_range.1 hi))]
 show (bif decide (2≤(zda z).length) then zmh (yj.mk (zda z)) () else zmg (yk.mk (zda z)) ())=_
 have hl:=zjg hf
 cases c:decide (2≤(zda z).length)<;>simp only [cond_true,cond_false]
 ·exact xs_val c
 ·exact ws_val (zkf z) om
theorem ztx (x:yc):zb3 x=zi4 x:=by
 unfold zb3 zi4
 rw [zdk]
 cases c:za9 x
 ·rfl
 ·simp only [Bool.not_true,cond_false];exact z2o c
theorem zmc {keys : List Int} : ∀ {l m : List Int}, l.Pairwise (kLt keys) → m.Pairwise (kLt keys) → l.Perm m → l = m
  | [],m,_,_,hp=>(List.Perm.nil_eq hp)
  | a :: l,[],_,_,hp=>absurd hp.length_eq zas
  | a :: l,b :: m,hl,hm,hp=>by
    obtain ⟨hl1,hl2⟩:=List.pairwise_cons.1 hl
    obtain ⟨hm1,hm2⟩:=List.pairwise_cons.1 hm
    have h1:a∈b :: m:=hp.mem_iff.1 List.mem_cons_self
    have h2:b∈a :: l:=hp.mem_iff.2 List.mem_cons_self
    have hab:a=b:=by
      rcases List.mem_cons.1 h1 with e | e
      · exact e
      · rcases List.mem_cons.1 h2 with e2 | e2
        · exact e2.symm
        · have g1:=hm1 a e
          have g2:=hl1 b e2
          unfold kLt at g1 g2
          omega
    subst hab
    rw [zmc hl2 hm2 (List.Perm.cons_inv hp)]
theorem zv1 {α:Type} [Inhabited α] (f:α→Int) (l:List α) (hs:∀ i j:Nat,i≤j→j<l.length→f (l.getD i default)≤f (l.getD j default)):zb7 (l.map f)=upto l.length:=by
 have ho:=(zhe (l.map f)).pw
 refine zmc ho ?_ (zgc f l)
 refine List.Pairwise.imp_of_mem (fun {a b} ha hb h=>?_) (zuf l.length)
 have ha:=mem_upto.1 ha
 have hb:=mem_upto.1 hb
 unfold kLt
 rw [zdw f om,zdw f om]
 have:=hs a.toNat b.toNat om om
 omega
theorem z4w {x:yc} (hx:za9 x=true):zbo x (upto x.people.length)=x:=by
 have h:=zzg (x:=x) (List.Perm.refl (upto x.people.length))
 have hp:∀ q:Int,0≤q→q<x.people.length→(zby (upto x.people.length) ((x.people.length:Nat):Int)).1.getD q.toNat default=q:=fun q h0 h1=>by
  obtain ⟨g1,g2⟩:=h.pos q h0 h1
  rw [zkj om] at g2
  omega
 obtain ⟨P,U⟩:=x
 unfold zbo
 dsimp only at h hp ⊢
 congr 1
 ·refine ext_g (by rw [List.length_map,zee]) fun k hk=>?_
  rw [List.length_map,zee] at hk
  rw [zdw (fun i:Int=>zcz (zby (upto P.length) ((P.length:Nat):Int)).1 (P.getD i.toNat default)) (by rw [zee];exact hk),zkj hk,Int.toNat_natCast]
  have p:=fam_p hx (k:=k) hk
  have fa:=p.fa
  have mo:=p.mo
  dsimp only at fa mo
  unfold zcz
  have e1:(bif decide (0≤(P.getD k default).father) then (zby (upto P.length) ((P.length:Nat):Int)).1.getD (P.getD k default).father.toNat default else (P.getD k default).father)=(P.getD k default).father:=by
   cases c:decide (0≤(P.getD k default).father)
   ·rfl
   ·have c:=of_decide_eq_true c;exact hp _ c om
  have e2:(bif decide (0≤(P.getD k default).mother) then (zby (upto P.length) ((P.length:Nat):Int)).1.getD (P.getD k default).mother.toNat default else (P.getD k default).mother)=(P.getD k default).mother:=by
   cases c:decide (0≤(P.getD k default).mother)
   ·rfl
   ·have c:=of_decide_eq_true c;exact hp _ c om
  rw [e1,e2]
 ·refine ext_g (by rw [List.length_map]) fun k hk=>?_
  rw [List.length_map] at hk
  rw [zdw (zj1 (zby (upto P.length) ((P.length:Nat):Int)).1) hk]
  have u:=fam_u hx (k:=k) hk
  have hm:=u.man
  have hw:=u.woman
  dsimp only at hm hw
  unfold zj1
  rw [hp _ hm.1 hm.2,hp _ hw.1 hw.2]
theorem zn1 {x:yc} (hx:za9 x=true) (hy:Years x):zdv x=x:=by
 have e1:zb9 x=upto x.people.length:=zv1 (fun p:ya=>p.born) x.people hy.p
 rw [zlv hx,e1,z4w hx]
 have e2:zhv x=upto x.unions.length:=zv1 (fun u:yb=>u.from0) x.unions hy.u
 rw [e2,zki]

def bEv (x:yc) (i:Nat):yd:=yd.mk 1 (x.people.getD i default).born (x.people.getD i default).name (x.people.getD i default).sex (x.people.getD i default).father (x.people.getD i default).mother
def uEv (x:yc) (i:Nat):yd:=yd.mk 2 (x.unions.getD i default).from0 [] 0 (x.unions.getD i default).man (x.unions.getD i default).woman
def pEv (x:yc) (i:Nat):yd:=yd.mk 3 (x.unions.getD i default).to [] 0 (x.unions.getD i default).man (x.unions.getD i default).woman
def dEv (x:yc) (i:Nat):yd:=yd.mk 4 (x.people.getD i default).died [] 0 ((i:Nat):Int) 0
theorem ztd {α β:Type} [Inhabited α] (f:α→β) (l:List α):l.map f=(List.range l.length).map fun i=>f (l.getD i default):=by
 apply List.ext_getElem zas
 intro k h1 h2
 rw [List.length_map] at h1
 simp [List.getD_eq_getElem?_getD,List.getElem?_eq_getElem h1]
theorem zfq (x:yc):zda x=((((List.range x.people.length).map (bEv x))++((List.range x.unions.length).map (uEv x)))++(((List.range x.unions.length).filter fun i=>decide (0≤(x.unions.getD i default).to)).map (pEv x)))++(((List.range x.people.length).filter fun i=>decide (0≤(x.people.getD i default).died)).map (dEv x)):=by
 unfold zda
 rw [ztd (fun p:ya=>yd.mk 1 p.born p.name p.sex p.father p.mother),ztd (fun u:yb=>yd.mk 2 u.from0 ([]:List UInt8) 0 u.man u.woman)]
 rfl
theorem zfg {x:yc} {e:yd} (h:e∈zda x):(∃ i,i<x.people.length∧e=bEv x i)∨(∃ i,i<x.unions.length∧e=uEv x i)∨(∃ i,i<x.unions.length∧0≤(x.unions.getD i default).to∧e=pEv x i)∨∃ i,i<x.people.length∧0≤(x.people.getD i default).died∧e=dEv x i:=by
 rw [zfq] at h
 rcases List.mem_append.1 h with h | h
 ·rcases List.mem_append.1 h with h | h
  ·rcases List.mem_append.1 h with h | h
   ·obtain ⟨i,hi,rfl⟩:=List.mem_map.1 h;exact .inl ⟨i,List.mem_range.1 hi,rfl⟩
   ·obtain ⟨i,hi,rfl⟩:=List.mem_map.1 h;exact .inr (.inl ⟨i,List.mem_range.1 hi,rfl⟩)
  ·obtain ⟨i,hi,rfl⟩:=List.mem_map.1 h
   obtain ⟨h1,h2⟩:=List.mem_filter.1 hi
   exact .inr (.inr (.inl ⟨i,List.mem_range.1 h1,of_decide_eq_true h2,rfl⟩))
 ·obtain ⟨i,hi,rfl⟩:=List.mem_map.1 h
  obtain ⟨h1,h2⟩:=List.mem_filter.1 hi
  exact .inr (.inr (.inr ⟨i,List.mem_range.1 h1,of_decide_eq_true h2,rfl⟩))
theorem zse {x:yc} {i:Nat} (h:i<x.people.length):bEv x i∈zda x:=by
 rw [zfq]
 exact List.mem_append_left _ (List.mem_append_left _ (List.mem_append_left _ (List.mem_map.2 ⟨i,List.mem_range.2 h,rfl⟩)))
theorem zyp {x:yc} {i:Nat} (h:i<x.unions.length):uEv x i∈zda x:=by
 rw [zfq]
 exact List.mem_append_left _ (List.mem_append_left _ (List.mem_append_right _ (List.mem_map.2 ⟨i,List.mem_range.2 h,rfl⟩)))
theorem z4y {x:yc} {i:Nat} (h:i<x.unions.length) (h2:0≤(x.unions.getD i default).to):pEv x i∈zda x:=by
 rw [zfq]
 exact List.mem_append_left _ (List.mem_append_right _ (List.mem_map.2 ⟨i,List.mem_filter.2 ⟨List.mem_range.2 h,decide_eq_true h2⟩,rfl⟩))
theorem z5d {x:yc} {i:Nat} (h:i<x.people.length) (h2:0≤(x.people.getD i default).died):dEv x i∈zda x:=by
 rw [zfq]
 exact List.mem_append_right _ (List.mem_map.2 ⟨i,List.mem_filter.2 ⟨List.mem_range.2 h,decide_eq_true h2⟩,rfl⟩)
theorem zsf {x:yc} (hx:za9 x=true) {i j:Nat} (hi:i<x.people.length) (hj:j<x.people.length) (h:bEv x i=bEv x j):i=j:=by
 have e:(x.people.getD i default).name=(x.people.getD j default).name:=congrArg yd.name h
 rcases Nat.lt_trichotomy i j with g | g | g
 ·exact absurd e ((fam_p hx hj).uniq i g)
 ·exact g
 ·exact absurd e.symm ((fam_p hx hi).uniq j g)
theorem zqc {x:yc} (hx:za9 x=true) {i j:Nat} (hi:i<x.unions.length) (hj:j<x.unions.length) (h1:(x.unions.getD i default).man=(x.unions.getD j default).man) (h2:(x.unions.getD i default).woman=(x.unions.getD j default).woman):i=j:=by
 rcases Nat.lt_trichotomy i j with g | g | g
 ·exact absurd h2 ((fam_u hx hj).uniq i g h1)
 ·exact g
 ·exact absurd h2.symm ((fam_u hx hi).uniq j g h1.symm)
theorem zk1 {α β:Type} {f:α→β} {l:List α} (hn:l.Nodup) (h:∀ a∈l,∀ b∈l,f a=f b→a=b):(l.map f).Nodup:=by
 rw [List.nodup_iff_pairwise_ne,List.pairwise_map]
 exact List.Pairwise.imp_of_mem (fun {a b} ha hb hab e=>hab (h a ha b hb e)) (List.nodup_iff_pairwise_ne.1 hn)
theorem zmt {x:yc} (hx:za9 x=true):(zda x).Nodup:=by
 have hr:∀ n:Nat,(List.range n).Nodup:=fun n=>List.nodup_range
 rw [zfq]
 refine List.nodup_append.2 ⟨List.nodup_append.2 ⟨List.nodup_append.2 ⟨zk1 (hr _) fun a ha b hb e => zsf hx (List.mem_range.1 ha) (List.mem_range.1 hb) e, zk1 (hr _) fun a ha b hb e => zqc hx (List.mem_range.1 ha) (List.mem_range.1 hb) (congrArg yd.a e) (congrArg yd.b e), fun a ha b hb => ?_⟩,
   zk1 ((hr _).filter _) fun a ha b hb e=>zqc hx (List.mem_range.1 (List.mem_filter.1 ha).1) (List.mem_range.1 (List.mem_filter.1 hb).1) (congrArg yd.a e) (congrArg yd.b e),fun a ha b hb=>?_⟩,
   zk1 ((hr _).filter _) fun a ha b hb e=>(by have h9:((a:Nat):Int)=((b:Nat):Int):=congrArg yd.a e;omega),fun a ha b hb=>?_⟩
 ·obtain ⟨i,_,rfl⟩:=List.mem_map.1 ha
  obtain ⟨j,_,rfl⟩:=List.mem_map.1 hb
  intro e;exact absurd (congrArg yd.kind e) (by decide:¬ (1:Int)=2)
 ·obtain ⟨j,_,rfl⟩:=List.mem_map.1 hb
  rcases List.mem_append.1 ha with ha | ha
  ·obtain ⟨i,_,rfl⟩:=List.mem_map.1 ha
   intro e;exact absurd (congrArg yd.kind e) (by decide:¬ (1:Int)=3)
  ·obtain ⟨i,_,rfl⟩:=List.mem_map.1 ha
   intro e;exact absurd (congrArg yd.kind e) (by decide:¬ (2:Int)=3)
 ·obtain ⟨j,_,rfl⟩:=List.mem_map.1 hb
  rcases List.mem_append.1 ha with ha | ha
  ·rcases List.mem_append.1 ha with ha | ha
   ·obtain ⟨i,_,rfl⟩:=List.mem_map.1 ha
    intro e;exact absurd (congrArg yd.kind e) (by decide:¬ (1:Int)=4)
   ·obtain ⟨i,_,rfl⟩:=List.mem_map.1 ha
    intro e;exact absurd (congrArg yd.kind e) (by decide:¬ (2:Int)=4)
  ·obtain ⟨i,_,rfl⟩:=List.mem_map.1 ha
   intro e;exact absurd (congrArg yd.kind e) (by decide:¬ (3:Int)=4)
theorem zcc (x:yc):(zbm x).Perm (zda x):=by
 rw [zg6]
 have h:=(zgc evKey (zda x)).map fun k:Int=>(zda x).getD k.toNat default
 rw [zki] at h
 exact h
theorem zh3 (x:yc):(zbm x).Pairwise fun a b=>evKey a≤evKey b:=by
 rw [zg6]
 refine ((zv0 evKey (zda x)).1).imp fun {a b} h=>?_
 unfold byKey at h
 have:=of_decide_eq_false h
 omega
theorem zmm {α:Type} [Inhabited α] (f:α→Int) (l:List α) (q:α→Bool) (hs:(l.filter q).Pairwise fun a b=>f a≤f b):((zb7 (l.map f)).map fun k=>l.getD k.toNat default).filter q=l.filter q:=by
 have ho:=zhe (l.map f)
 have hp:=zgc f l
 have e:l.filter q=((upto l.length).map fun k=>l.getD k.toNat default).filter q:=by rw [zki]
 rw [e,List.filter_map] at hs
 rw [e,List.filter_map,List.filter_map]
 congr 1
 refine zmc (keys:=l.map f) (ho.pw.filter _) ?_ (hp.filter _)
 rw [List.pairwise_map] at hs
 refine List.Pairwise.imp_of_mem (R:=fun a b=>a<b∧f (l.getD a.toNat default)≤f (l.getD b.toNat default)) (fun {a b} ha hb h=>?_) (List.Pairwise.and ((zuf l.length).filter _) hs)
 have ha:=mem_upto.1 (List.mem_filter.1 ha).1
 have hb:=mem_upto.1 (List.mem_filter.1 hb).1
 unfold kLt
 rw [zdw f om,zdw f om]
 omega
theorem zwp {α β:Type} (f:α→β) (q:β→Bool) (l:List α) (h:∀ a,q (f a)=true):(l.map f).filter q=l.map f:=by
 rw [List.filter_eq_self]
 intro b hb
 obtain ⟨a,_,rfl⟩:=List.mem_map.1 hb
 exact h a
theorem zjf {α β:Type} (f:α→β) (q:β→Bool) (l:List α) (h:∀ a,q (f a)=false):(l.map f).filter q=[]:=by
 rw [List.filter_eq_nil_iff]
 intro b hb
 obtain ⟨a,_,rfl⟩:=List.mem_map.1 hb
 rw [h a];simp
def isK (k:Int) (e:yd):Bool:=decide (e.kind=k)
theorem zwr (x:yc):(zda x).filter (isK 1)=(List.range x.people.length).map (bEv x):=by
 rw [zfq,List.filter_append,List.filter_append,List.filter_append,zwp (bEv x) _ _ (fun a=>rfl),zjf (uEv x) _ _ (fun a=>rfl),zjf (pEv x) _ _ (fun a=>rfl),zjf (dEv x) _ _ (fun a=>rfl)]
 simp
theorem zwq (x:yc):(zda x).filter (isK 2)=(List.range x.unions.length).map (uEv x):=by
 rw [zfq,List.filter_append,List.filter_append,List.filter_append,zjf (bEv x) _ _ (fun a=>rfl),zwp (uEv x) _ _ (fun a=>rfl),zjf (pEv x) _ _ (fun a=>rfl),zjf (dEv x) _ _ (fun a=>rfl)]
 simp
theorem zvv {n:Nat} {β:Type} (f:Nat→β) (R:β→β→Prop) (h:∀ i j:Nat,i<j→j<n→R (f i) (f j)):((List.range n).map f).Pairwise R:=by
 rw [List.pairwise_map]
 exact List.Pairwise.imp_of_mem (fun {a b} ha hb hab=>h a b hab (List.mem_range.1 hb)) List.pairwise_lt_range
theorem zlw {x:yc} (hy:Years x):(zbm x).filter (isK 1)=(List.range x.people.length).map (bEv x):=by
 rw [zg6,zmm,zwr]
 rw [zwr]
 refine zvv (bEv x) (fun a b=>evKey a≤evKey b) fun i j hij hj=>?_
 have h:(x.people.getD i default).born≤(x.people.getD j default).born:=hy.p i j om hj
 show 8 * (x.people.getD i default).born+1≤8 * (x.people.getD j default).born+1
 omega
theorem zqf {x:yc} (hy:Years x):(zbm x).filter (isK 2)=(List.range x.unions.length).map (uEv x):=by
 rw [zg6,zmm,zwq]
 rw [zwq]
 refine zvv (uEv x) (fun a b=>evKey a≤evKey b) fun i j hij hj=>?_
 have h:(x.unions.getD i default).from0≤(x.unions.getD j default).from0:=hy.u i j om hj
 show 8 * (x.unions.getD i default).from0+2≤8 * (x.unions.getD j default).from0+2
 omega
structure BdI (x:yc) (L:List yd) (p:List ya) (u:List yb):Prop where
 pl:p.length=(L.filter (isK 1)).length
 ul:u.length=(L.filter (isK 2)).length
 pg : ∀ j : Nat, j < p.length → p.getD j default = ya.mk (x.people.getD j default).name (x.people.getD j default).sex (x.people.getD j default).father (x.people.getD j default).mother (x.people.getD j default).born (p.getD j default).died ∧
   ((dEv x j∈L∧(p.getD j default).died=(x.people.getD j default).died)∨(dEv x j ∉ L∧(p.getD j default).died=-1))
 ug : ∀ j : Nat, j < u.length → u.getD j default = yb.mk (x.unions.getD j default).man (x.unions.getD j default).woman (x.unions.getD j default).from0 (u.getD j default).to ∧
   ((pEv x j∈L∧(u.getD j default).to=(x.unions.getD j default).to)∨(pEv x j ∉ L∧(u.getD j default).to=-1))
theorem zoe {α:Type} {L R:List α} {n:Nat} {f:Nat→α} (h:L++R=(List.range n).map f):L.length≤n∧L=(List.range L.length).map f∧(∀ e R',R=e :: R'→L.length<n∧e=f L.length):=by
 have hl:=congrArg List.length h
 rw [List.length_append,List.length_map,List.length_range] at hl
 have hk:∀ k,k<n→(L++R)[k]?=some (f k):=fun k hk=>by rw [h,List.getElem?_map,List.getElem?_range hk];rfl
 refine ⟨om,?_,fun e R' hR=>?_⟩
 ·apply List.ext_getElem?
  intro k
  rcases Nat.lt_or_ge k L.length with g | g
  ·have:=hk k om
   rw [List.getElem?_append_left g] at this
   rw [this,List.getElem?_map,List.getElem?_range g];rfl
  ·rw [List.getElem?_eq_none g,List.getElem?_eq_none (by rw [List.length_map,List.length_range];exact g)]
 ·subst hR
  rw [List.length_cons] at hl
  have:=hk L.length om
  rw [List.getElem?_append_right (Nat.le_refl _),Nat.sub_self,List.getElem?_cons_zero] at this
  exact ⟨om,Option.some.inj this⟩
section
variable {x:yc} {L:List yd} {R:List yd} {p:List ya} {u:List yb}
theorem z0y (hy:Years x) (hA:zbm x=L++R) (h:BdI x L p u) (hx:za9 x=true):p.length≤x.people.length∧∀ j:Nat,j<x.people.length→(bEv x j∈L↔j<p.length):=by
 have e:=zlw hy
 rw [hA,List.filter_append] at e
 obtain ⟨h1,h2,_⟩:=zoe e
 rw [← h.pl] at h1 h2
 refine ⟨h1,fun j hj=>⟨fun hm=>?_,fun hm=>?_⟩⟩
 ·have:bEv x j∈L.filter (isK 1):=List.mem_filter.2 ⟨hm,rfl⟩
  rw [h2] at this
  obtain ⟨i,hi,ei⟩:=List.mem_map.1 this
  have hi:=List.mem_range.1 hi
  have:=zsf hx om hj ei
  omega
 ·have:bEv x j∈L.filter (isK 1):=by rw [h2];exact List.mem_map.2 ⟨j,List.mem_range.2 hm,rfl⟩
  exact (List.mem_filter.1 this).1
theorem z3p (hy:Years x) (hA:zbm x=L++R) (h:BdI x L p u) (hx:za9 x=true):u.length≤x.unions.length∧∀ j:Nat,j<x.unions.length→(uEv x j∈L↔j<u.length):=by
 have e:=zqf hy
 rw [hA,List.filter_append] at e
 obtain ⟨h1,h2,_⟩:=zoe e
 rw [← h.ul] at h1 h2
 refine ⟨h1,fun j hj=>⟨fun hm=>?_,fun hm=>?_⟩⟩
 ·have:uEv x j∈L.filter (isK 2):=List.mem_filter.2 ⟨hm,rfl⟩
  rw [h2] at this
  obtain ⟨i,hi,ei⟩:=List.mem_map.1 this
  have hi:=List.mem_range.1 hi
  have:=zqc hx om hj (congrArg yd.a ei) (congrArg yd.b ei)
  omega
 ·have:uEv x j∈L.filter (isK 2):=by rw [h2];exact List.mem_map.2 ⟨j,List.mem_range.2 hm,rfl⟩
  exact (List.mem_filter.1 this).1
theorem zlq {e f:yd} (hA:zbm x=L++e :: R) (hf:f∈zda x) (hk:evKey f<evKey e):f∈L:=by
 have h1:f∈zbm x:=(zcc x).mem_iff.2 hf
 have h2:=zh3 x
 rw [hA] at h1 h2
 obtain ⟨_,h3,_⟩:=List.pairwise_append.1 h2
 obtain ⟨h4,_⟩:=List.pairwise_cons.1 h3
 rcases List.mem_append.1 h1 with g | g
 ·exact g
 ·rcases List.mem_cons.1 g with g | g
  ·subst g;omega
  ·have:=h4 f g;omega
theorem z0x {e f:yd} (hA:zbm x=L++e :: R) (hf:f∈L):evKey f≤evKey e:=by
 have h2:=zh3 x
 rw [hA] at h2
 exact (List.pairwise_append.1 h2).2.2 f hf e List.mem_cons_self
theorem z3q {e:yd} (hx:za9 x=true) (hA:zbm x=L++e :: R):e ∉ L:=by
 have h:=(zcc x).nodup_iff.2 (zmt hx)
 rw [hA] at h
 exact fun hm=>(List.nodup_append.1 h).2.2 e hm e List.mem_cons_self rfl
theorem zu6 (k:Int) {e:yd} (h:isK k e=true):(L++[e]).filter (isK k)=L.filter (isK k)++[e]:=by rw [List.filter_append,List.filter_cons,h];simp
theorem zke (k:Int) {e:yd} (h:isK k e=false):(L++[e]).filter (isK k)=L.filter (isK k):=by rw [List.filter_append,List.filter_cons,h];simp
theorem zl6 {f e:yd} (h:f.kind≠e.kind):f∈L++[e]↔f∈L:=by
 rw [List.mem_append,List.mem_singleton]
 exact ⟨fun h9=>h9.elim id fun e9=>absurd (congrArg yd.kind e9) h,.inl⟩
theorem zuy {f:yc} {a b:Int} {i:Nat} (hi:i<f.unions.length) (h1:(f.unions.getD i default).man=a∧(f.unions.getD i default).woman=b) (h2:∀ j:Nat,j<i→¬ ((f.unions.getD j default).man=a∧(f.unions.getD j default).woman=b)):zcn f a b=((i:Nat):Int):=by
 unfold zcn
 refine zbx (fun k (v:Unit)=>k≤i) (fun r=>r=((i:Nat):Int)) (Nat.zero_le _) (fun k v next hk hv hn=>?_) (fun v hv=>by omega)
 by_cases c:k=i
 ·subst c
  rw [decide_eq_true h1.1,decide_eq_true h1.2];rfl
 ·have h3:=h2 k om
  have:(decide (((f.unions.getD k default).man)=a)&&decide (((f.unions.getD k default).woman)=b))=false:=by
   cases c:(decide (((f.unions.getD k default).man)=a)&&decide (((f.unions.getD k default).woman)=b))
   ·rfl
   ·simp only [Bool.and_eq_true,decide_eq_true_eq] at c
    exact absurd c h3
  rw [this]
  exact hn _ om
theorem z5e {e:yd} (hx:za9 x=true) (hy:Years x) (hA:zbm x=L++e :: R) (h:BdI x L p u):(l11Do ⟨p,u⟩ e).2=true∧BdI x (L++[e]) (l11Do ⟨p,u⟩ e).1.people (l11Do ⟨p,u⟩ e).1.unions:=by
 have he:e∈zda x:=(zcc x).mem_iff.1 (by rw [hA];exact List.mem_append_right _ List.mem_cons_self)
 have hb:=z0y hy hA h hx
 have hw:=z3p hy hA h hx
 have hn:=fam_n hx
 have hin:∀ q:Int,0≤q∧q<x.people.length→8 * (x.people.getD q.toNat default).born+1<evKey e→q<p.length:=fun q hq hk=>by
  have:=(hb.2 q.toNat om).1 (zlq hA (zse om) hk)
  omega
 rcases zfg he with ⟨i,hi,rfl⟩ | ⟨i,hi,rfl⟩ | ⟨i,hi,h0,rfl⟩ | ⟨i,hi,h0,rfl⟩
 ·have e1:=zlw hy
  rw [hA,List.filter_append,List.filter_cons,show isK 1 (bEv x i)=true from rfl,if_pos rfl] at e1
  obtain ⟨g1,_,g3⟩:=zoe e1
  obtain ⟨g4,g5⟩:=g3 _ _ rfl
  rw [← h.pl] at g4 g5
  have hip:=zsf hx hi g4 g5
  subst hip
  have hv:l11Do ⟨p,u⟩ (bEv x p.length)=(⟨p++[ya.mk (x.people.getD p.length default).name (x.people.getD p.length default).sex (x.people.getD p.length default).father (x.people.getD p.length default).mother (x.people.getD p.length default).born (-1)],u⟩,true):=by
   unfold l11Do bEv
   rw [decide_eq_true rfl]
   simp only [Bool.not_true,Bool.false_and,cond_false,cond_true]
   rw [decide_eq_true om]
  rw [hv]
  refine ⟨rfl,?_,?_,fun j hj=>?_,fun j hj=>?_⟩
  ·rw [zu6 1 rfl,List.length_append,List.length_append,h.pl];rfl
  ·rw [zke 2 rfl];exact h.ul
  ·dsimp only at hj ⊢
   rw [zl6 (show (dEv x j).kind≠(bEv x p.length).kind by intro c;exact absurd c (by decide:¬ (4:Int)=1))]
   rw [List.length_append,List.length_singleton] at hj
   rw [zcy]
   by_cases c:j<p.length
   ·rw [if_pos c];exact h.pg j c
   ·have:j=p.length:=by omega
    subst this
    rw [if_neg c,if_pos rfl]
    refine ⟨rfl,.inr ⟨fun hm=>?_,rfl⟩⟩
    have k1:8 * (x.people.getD p.length default).died+4≤8 * (x.people.getD p.length default).born+1:=z0x hA hm
    have hm2:dEv x p.length∈zda x:=(zcc x).mem_iff.1 (by rw [hA];exact List.mem_append_left _ hm)
    have k2:=(fam_p hx hi).died
    have k3:=(fam_p hx hi).born
    rcases zfg hm2 with ⟨i2,_,q⟩ | ⟨i2,_,q⟩ | ⟨i2,_,_,q⟩ | ⟨i2,_,q0,q⟩
    ·exact absurd (congrArg yd.kind q) (by decide:¬ (4:Int)=1)
    ·exact absurd (congrArg yd.kind q) (by decide:¬ (4:Int)=2)
    ·exact absurd (congrArg yd.kind q) (by decide:¬ (4:Int)=3)
    ·have q2:(x.people.getD p.length default).died=(x.people.getD i2 default).died:=congrArg yd.year q
     omega
  ·rw [zl6 (show (pEv x j).kind≠(bEv x p.length).kind by intro c;exact absurd c (by decide:¬ (3:Int)=1))]
   exact h.ug j hj
 ·have e1:=zqf hy
  rw [hA,List.filter_append,List.filter_cons,show isK 2 (uEv x i)=true from rfl,if_pos rfl] at e1
  obtain ⟨g1,_,g3⟩:=zoe e1
  obtain ⟨g4,g5⟩:=g3 _ _ rfl
  rw [← h.ul] at g4 g5
  have hip:=zqc hx hi g4 (congrArg yd.a g5) (congrArg yd.b g5)
  subst hip
  have f:=fam_u hx hi
  have fm:=f.man;have fw:=f.woman;have ff:=f.from0
  have kk:evKey (uEv x u.length)=8 * (x.unions.getD u.length default).from0+2:=rfl
  have hm:=hin _ fm om
  have hwm:=hin _ fw om
  have hv:l11Do ⟨p,u⟩ (uEv x u.length)=(⟨p,u++[yb.mk (x.unions.getD u.length default).man (x.unions.getD u.length default).woman (x.unions.getD u.length default).from0 (-1)]⟩,true):=by
   unfold l11Do uEv l1In
   dsimp only
   rw [decide_eq_true (show 0≤(x.unions.getD u.length default).man by omega),decide_eq_true (show (x.unions.getD u.length default).man≤((p.length:Nat):Int) - 1 by omega),decide_eq_true (show 0≤(x.unions.getD u.length default).woman by omega),decide_eq_true (show (x.unions.getD u.length default).woman≤((p.length:Nat):Int) - 1 by omega)]
   rw [decide_eq_true (show ((((u++[yb.mk (x.unions.getD u.length default).man (x.unions.getD u.length default).woman (x.unions.getD u.length default).from0 (-1)]).length:Nat):Int)≤60) by rw [List.length_append,List.length_singleton];omega)]
   rfl
  rw [hv]
  refine ⟨rfl,?_,?_,fun j hj=>?_,fun j hj=>?_⟩
  ·rw [zke 1 rfl];exact h.pl
  ·rw [zu6 2 rfl,List.length_append,List.length_append,h.ul];rfl
  ·rw [zl6 (show (dEv x j).kind≠(uEv x u.length).kind by intro c;exact absurd c (by decide:¬ (4:Int)=2))]
   exact h.pg j hj
  ·dsimp only at hj ⊢
   rw [zl6 (show (pEv x j).kind≠(uEv x u.length).kind by intro c;exact absurd c (by decide:¬ (3:Int)=2))]
   rw [List.length_append,List.length_singleton] at hj
   rw [zcy]
   by_cases c:j<u.length
   ·rw [if_pos c];exact h.ug j c
   ·have:j=u.length:=by omega
    subst this
    rw [if_neg c,if_pos rfl]
    refine ⟨rfl,.inr ⟨fun hm=>?_,rfl⟩⟩
    have k1:8 * (x.unions.getD u.length default).to+3≤8 * (x.unions.getD u.length default).from0+2:=z0x hA hm
    have hm2:pEv x u.length∈zda x:=(zcc x).mem_iff.1 (by rw [hA];exact List.mem_append_left _ hm)
    have k2:=f.to
    have k3:=(fam_p hx (k:=(x.unions.getD u.length default).man.toNat) om).born
    rcases zfg hm2 with ⟨i2,_,q⟩ | ⟨i2,_,q⟩ | ⟨i2,_,q0,q⟩ | ⟨i2,_,q0,q⟩
    ·exact absurd (congrArg yd.kind q) (by decide:¬ (3:Int)=1)
    ·exact absurd (congrArg yd.kind q) (by decide:¬ (3:Int)=2)
    ·have q2:(x.unions.getD u.length default).to=(x.unions.getD i2 default).to:=congrArg yd.year q
     omega
    ·exact absurd (congrArg yd.kind q) (by decide:¬ (3:Int)=4)
 ·have f:=fam_u hx hi
  have fm:=f.man;have fw:=f.woman;have ff:=f.from0;have ft:=f.to
  have kk:evKey (pEv x i)=8 * (x.unions.getD i default).to+3:=rfl
  have hm:=hin _ fm om
  have hiu : i < u.length := (hw.2 i hi).1 (zlq hA (zyp hi) (by
    show 8 * (x.unions.getD i default).from0+2<_
    omega))
  have hg:=fun j hj=>(h.ug j hj).1
  have hat:zcn ⟨p,u⟩ (x.unions.getD i default).man (x.unions.getD i default).woman=((i:Nat):Int):=by
   refine zuy (f:=⟨p,u⟩) hiu (by dsimp only;rw [hg i hiu];exact ⟨rfl,rfl⟩) fun j hj c=>?_
   dsimp only at c
   rw [hg j om] at c
   have:=zqc hx (show j<x.unions.length by omega) hi c.1 c.2
   omega
  have hto:(u.getD i default).to=-1:=by
   rcases (h.ug i hiu).2 with g | g
   ·exact absurd g.1 (z3q hx hA)
   ·exact g.2
  have hv:l11Do ⟨p,u⟩ (pEv x i)=(⟨p,u.set i (yb.mk (x.unions.getD i default).man (x.unions.getD i default).woman (x.unions.getD i default).from0 (x.unions.getD i default).to)⟩,true):=by
   unfold l11Do pEv l1In
   dsimp only
   rw [hat,decide_eq_true (show 0≤(x.unions.getD i default).man by omega),decide_eq_true (show (x.unions.getD i default).man≤((p.length:Nat):Int) - 1 by omega),Int.toNat_natCast,hto,decide_eq_false (show ¬ ((i:Nat):Int)<0 by omega)]
   have e9:=hg i hiu
   have e1:(u.getD i default).man=(x.unions.getD i default).man:=by rw [e9]
   have e2:(u.getD i default).woman=(x.unions.getD i default).woman:=by rw [e9]
   have e3:(u.getD i default).from0=(x.unions.getD i default).from0:=by rw [e9]
   rw [e1,e2,e3]
   rfl
  rw [hv]
  refine ⟨rfl,?_,?_,fun j hj=>?_,fun j hj=>?_⟩
  ·rw [zke 1 rfl];exact h.pl
  ·rw [zke 2 rfl,List.length_set];exact h.ul
  ·rw [zl6 (show (dEv x j).kind≠(pEv x i).kind by intro c;exact absurd c (by decide:¬ (4:Int)=3))]
   exact h.pg j hj
  ·dsimp only at hj ⊢
   rw [List.length_set] at hj
   rw [zco]
   by_cases c:j=i
   ·subst c
    rw [if_pos ⟨rfl,hj⟩]
    exact ⟨rfl,.inl ⟨List.mem_append_right _ (List.mem_singleton.2 rfl),rfl⟩⟩
   ·rw [if_neg (fun c2=>c c2.1)]
    have hne:pEv x j∈L++[pEv x i]↔pEv x j∈L:=by
     rw [List.mem_append,List.mem_singleton]
     exact ⟨fun h9=>h9.elim id fun e9=>absurd (zqc hx om hi (congrArg yd.a e9) (congrArg yd.b e9)) c,.inl⟩
    rw [hne]
    exact h.ug j hj
 ·have f:=fam_p hx hi
  have fb:=f.born;have fd:=f.died
  have kk:evKey (dEv x i)=8 * (x.people.getD i default).died+4:=rfl
  have hip : i < p.length := (hb.2 i hi).1 (zlq hA (zse hi) (by
    show 8 * (x.people.getD i default).born+1<_
    omega))
  have hg:=fun j hj=>(h.pg j hj).1
  have hto:(p.getD i default).died=-1:=by
   rcases (h.pg i hip).2 with g | g
   ·exact absurd g.1 (z3q hx hA)
   ·exact g.2
  have hv:l11Do ⟨p,u⟩ (dEv x i)=(⟨p.set i (ya.mk (x.people.getD i default).name (x.people.getD i default).sex (x.people.getD i default).father (x.people.getD i default).mother (x.people.getD i default).born (x.people.getD i default).died),u⟩,true):=by
   unfold l11Do dEv l1In
   dsimp only
   rw [decide_eq_true (show (0:Int)≤((i:Nat):Int) by omega),decide_eq_true (show ((i:Nat):Int)≤((p.length:Nat):Int) - 1 by omega),Int.toNat_natCast,hto]
   have e9:=hg i hip
   have e1:(p.getD i default).name=(x.people.getD i default).name:=by rw [e9]
   have e2:(p.getD i default).sex=(x.people.getD i default).sex:=by rw [e9]
   have e3:(p.getD i default).father=(x.people.getD i default).father:=by rw [e9]
   have e4:(p.getD i default).mother=(x.people.getD i default).mother:=by rw [e9]
   have e5:(p.getD i default).born=(x.people.getD i default).born:=by rw [e9]
   rw [e1,e2,e3,e4,e5]
   rfl
  rw [hv]
  refine ⟨rfl,?_,?_,fun j hj=>?_,fun j hj=>?_⟩
  ·rw [zke 1 rfl,List.length_set];exact h.pl
  ·rw [zke 2 rfl];exact h.ul
  ·dsimp only at hj ⊢
   rw [List.length_set] at hj
   rw [zco]
   by_cases c:j=i
   ·subst c
    rw [if_pos ⟨rfl,hj⟩]
    exact ⟨rfl,.inl ⟨List.mem_append_right _ (List.mem_singleton.2 rfl),rfl⟩⟩
   ·rw [if_neg (fun c2=>c c2.1)]
    have hne:dEv x j∈L++[dEv x i]↔dEv x j∈L:=by
     rw [List.mem_append,List.mem_singleton]
     exact ⟨fun h9=>h9.elim id fun e9=>absurd (show ((j:Nat):Int)=((i:Nat):Int) from congrArg yd.a e9) om,.inl⟩
    rw [hne]
    exact h.pg j hj
  ·rw [zl6 (show (pEv x j).kind≠(dEv x i).kind by intro c;exact absurd c (by decide:¬ (3:Int)=4))]
   exact h.ug j hj
end
theorem zjq {α : Type} (f : α → Int) (y : Int) : ∀ (l : List α), l.Pairwise (fun a b => f a ≤ f b) → ∃ c : Nat, c ≤ l.length ∧ l.filter (fun e => decide (f e ≤ y)) = l.take c ∧ (∀ e ∈ l.take c, f e ≤ y) ∧ ∀ e ∈ l.drop c, y < f e
  | [],_=>⟨0,Nat.le_refl _,rfl,fun e he=>absurd he List.not_mem_nil,fun e he=>absurd he List.not_mem_nil⟩
  | a :: l,h=>by
    obtain ⟨h1,h2⟩:=List.pairwise_cons.1 h
    by_cases c:f a≤y
    · obtain ⟨n,g0,g1,g2,g3⟩:=zjq f y l h2
      refine ⟨n+1,by simp;exact g0,by rw [List.filter_cons,decide_eq_true c,if_pos rfl,g1];rfl,fun e he=>?_,g3⟩
      rcases List.mem_cons.1 he with e1 | e1
      · subst e1;exact c
      · exact g2 e e1
    · refine ⟨0,Nat.zero_le _,?_,fun e he=>absurd he List.not_mem_nil,fun e he=>?_⟩
      · rw [List.take_zero,List.filter_eq_nil_iff]
        intro e he
        rcases List.mem_cons.1 he with e1 | e1
        · subst e1;simpa using c
        · have:=h1 e e1;simp;omega
      · rcases List.mem_cons.1 he with e1 | e1
        · subst e1;omega
        · have:=h1 e e1;omega
theorem zn3 (x:yc):(zbm x).Pairwise fun a b=>a.year≤b.year:=by
 refine List.Pairwise.imp_of_mem (fun {a b} ha hb h=>?_) (zh3 x)
 have h1:=zkf x a ((zcc x).mem_iff.1 ha)
 have h2:=zkf x b ((zcc x).mem_iff.1 hb)
 unfold evKey at h
 omega
theorem zvm {x:yc} (hx:za9 x=true) (hy:Years x) (y:Int):zbh ((zbm x).filter fun e=>decide (e.year≤y))=(zdg x y,true):=by
 obtain ⟨c,hc,e1,h1,h2⟩:=zjq (fun e:yd=>e.year) y (zbm x) (zn3 x)
 rw [e1]
 have hlen:((zbm x).take c).length=c:=by rw [List.length_take];omega
 have hget:∀ i:Nat,i<c→((zbm x).take c).getD i default=(zbm x).getD i default:=fun i hi=>by
  rw [List.getD_eq_getElem?_getD,List.getD_eq_getElem?_getD,List.getElem?_take,if_pos hi]
 have hsp:∀ i:Nat,i<c→zbm x=(zbm x).take i++(zbm x).getD i default :: (zbm x).drop (i+1):=fun i hi=>by
  have e:(zbm x).drop i=(zbm x).getD i default :: (zbm x).drop (i+1):=by
   rw [List.drop_eq_getElem_cons om,zmd om]
  rw [← e,List.take_append_drop]
 unfold zbh
 rw [hlen]
 refine zbx (fun i (v:List ya×List yb)=>BdI x ((zbm x).take i) v.1 v.2) (fun r=>r=(zdg x y,true)) ⟨by simp,by simp,fun j hj=>absurd hj (Nat.not_lt_zero _),fun j hj=>absurd hj (Nat.not_lt_zero _)⟩ (fun i v next hi hv hn=>?_) (fun v hv=>?_)
 ·have hyr:((decide (0<((i:Nat):Int)))&&(decide (((((zbm x).take c).getD i default).year)<((((zbm x).take c).getD ((((i:Nat):Int) - 1).toNat) default).year))))=false:=by
   by_cases c0:0<i
   ·have e9:(((i:Nat):Int) - 1).toNat=i - 1:=by omega
    rw [e9,hget i hi,hget (i - 1) om]
    have:=zkd (zn3 x) i om (i - 1) om
    rw [decide_eq_false (show ¬ ((zbm x).getD i default).year<((zbm x).getD (i - 1) default).year by omega),Bool.and_false]
   ·rw [decide_eq_false (show ¬ 0<((i:Nat):Int) by omega),Bool.false_and]
  rw [hyr,hget i hi]
  obtain ⟨s1,s2⟩:=z5e hx hy (hsp i hi) hv
  rw [show (yc.mk v.1 v.2:yc)=⟨v.1,v.2⟩ from rfl,s1]
  simp only [Bool.not_true,cond_false]
  refine hn _ ?_
  rw [ze1 _ default om]
  exact s2
 ·have hA:zbm x=(zbm x).take c++(zbm x).drop c:=(List.take_append_drop c _).symm
  have hb:=z0y hy hA hv hx
  have hw:=z3p hy hA hv hx
  have hin:∀ e:yd,e∈zda x→(e∈(zbm x).take c∧e.year≤y)∨(e ∉ (zbm x).take c∧y<e.year):=fun e he=>by
   have hm:e∈zbm x:=(zcc x).mem_iff.2 he
   have hnd:=(zcc x).nodup_iff.2 (zmt hx)
   rw [hA] at hm hnd
   rcases List.mem_append.1 hm with g | g
   ·exact .inl ⟨g,h1 e g⟩
   ·exact .inr ⟨fun g2=>(List.nodup_append.1 hnd).2.2 e g2 e g rfl,h2 e g⟩
  have hE:Early x ⟨v.1,v.2⟩ y:=by
   refine ⟨hb.1,fun i hi=>?_,fun i g1 g2=>?_,hw.1,fun i hi=>?_,fun i g1 g2=>?_⟩
   ·dsimp only at hi ⊢
    have hm:=(hb.2 i om).2 hi
    refine ⟨?_,h1 _ hm⟩
    obtain ⟨g1,g2⟩:=hv.pg i hi
    rw [g1]
    unfold clipP
    congr 1
    have fd:=(fam_p hx (k:=i) om).died
    have fb:=(fam_p hx (k:=i) om).born
    rcases g2 with ⟨g2,g3⟩ | ⟨g2,g3⟩
    ·have:(x.people.getD i default).died≤y:=h1 _ g2
     rw [g3,decide_eq_false om];rfl
    ·rw [g3]
     by_cases c0:0≤(x.people.getD i default).died
     ·rcases hin _ (z5d (x:=x) (i:=i) om c0) with q | q
      ·exact absurd q.1 g2
      ·have q2:y<(x.people.getD i default).died:=q.2
       rw [decide_eq_true q2];rfl
     ·have:(x.people.getD i default).died=-1:=by omega
      rw [this]
      cases decide (y < -1)<;>rfl
   ·dsimp only at g1
    rcases hin _ (zse g2) with q | q
    ·have:=(hb.2 i g2).1 q.1;omega
    ·exact q.2
   ·dsimp only at hi ⊢
    have hm:=(hw.2 i om).2 hi
    refine ⟨?_,h1 _ hm⟩
    obtain ⟨g1,g2⟩:=hv.ug i hi
    rw [g1]
    unfold clipU
    congr 1
    have ft:=(fam_u hx (k:=i) om).to
    have ff:=(fam_u hx (k:=i) om).from0
    have fm:=(fam_u hx (k:=i) om).man
    have fb:=(fam_p hx (k:=(x.unions.getD i default).man.toNat) om).born
    rcases g2 with ⟨g2,g3⟩ | ⟨g2,g3⟩
    ·have:(x.unions.getD i default).to≤y:=h1 _ g2
     rw [g3,decide_eq_false om];rfl
    ·rw [g3]
     by_cases c0:0≤(x.unions.getD i default).to
     ·rcases hin _ (z4y (x:=x) (i:=i) om c0) with q | q
      ·exact absurd q.1 g2
      ·have q2:y<(x.unions.getD i default).to:=q.2
       rw [decide_eq_true q2];rfl
     ·have:(x.unions.getD i default).to=-1:=by omega
      rw [this]
      cases decide (y < -1)<;>rfl
   ·dsimp only at g1
    rcases hin _ (zyp g2) with q | q
    ·have:=(hw.2 i g2).1 q.1;omega
    ·exact q.2
  rw [hE.fam hx]
  simp only [Bool.not_true,cond_false]
  have hK:=zo7 hx hy y
  rw [z0m (Int.le_refl y) hE (zya hE) hK]
structure EvN (n:Nat) (l:List yd):Prop where
 len:l.length≤n
 nm:∀ e∈l,e.name.length≤1048576
theorem EvN.nil:EvN 0 []:=⟨Nat.le_refl _,fun e he=>absurd he List.not_mem_nil⟩
theorem EvN.mono {n m:Nat} {l:List yd} (h:EvN n l) (hm:n≤m):EvN m l:=⟨Nat.le_trans h.1 hm,h.2⟩
theorem EvN.snoc {n:Nat} {l:List yd} (h:EvN n l) {e:yd} (he:e.name.length≤1048576):EvN (n+1) (l++[e]):=by
 refine ⟨by rw [List.length_append,List.length_singleton];have:=h.1;omega,fun a ha=>?_⟩
 rcases List.mem_append.1 ha with ha | ha
 ·exact h.2 a ha
 ·rw [List.mem_singleton.1 ha];exact he
theorem zpk {f:yc} (hf:za9 f=true) (hy:Years f):zb3 f=zbm f:=by
 rw [ztx]
 unfold zi4
 rw [hf,zn1 hf hy];rfl
theorem z0k {f:yc} (hf:za9 f=true) (hy:Years f):EvN 200 (zb3 f):=by
 rw [zpk hf hy]
 refine ⟨by rw [(zcc f).length_eq];exact zjg hf,fun e he=>?_⟩
 have hn:=zfp hf
 rcases zfg ((zcc f).mem_iff.1 he) with ⟨i,hi,rfl⟩ | ⟨i,hi,rfl⟩ | ⟨i,hi,_,rfl⟩ | ⟨i,hi,_,rfl⟩
 ·exact hn _ (zd0 hi)
 ·exact Nat.zero_le _
 ·exact Nat.zero_le _
 ·exact Nat.zero_le _
end Go.Proofs.YtlinnkjieghmhaaGreatDoor
