import Derived.Test.YtlinnkjieghmhaaGreatDoorVS79
set_option maxHeartbeats 4000000
set_option linter.unusedSimpArgs false
set_option linter.unusedVariables false
namespace Go.Proofs.YtlinnkjieghmhaaGreatDoor
open Go Go.Lite Go.Proofs
open _root_.List renaming mem_range→yU, pairwise_cons→YJ, mem_cons_self→Yq, mem_cons→yL, length_map→yY, range→yO, getD_eq_getElem?_getD→yn, mem_append→yG, mem_map→yZ, mem_filter→Yf, mem_append_left→YP, mem_append_right→YX, nodup_iff_pairwise_ne→YO, pairwise_map→wz, nodup_append→wP, filter_map→wX, filter_eq_nil_iff→wm, filter_append→Yi, length_append→yo, length_range→wM, getElem?_map→Ys, getElem?_range→wj, getElem?_eq_none→Ya, pairwise_append→wR, filter_cons→YD, mem_singleton→yN, length_singleton→yE, length_set→Ym, not_mem_nil→Yd, take_append_drop→Y6
open _root_.Bool renaming not_true→y6
open _root_.Int renaming toNat_natCast→yQ
open _root_.Nat renaming lt_trichotomy→wN, le_refl→yu, zero_le→Yh, not_lt_zero→yJ
open _root_.Inhabited renaming default→w9
theorem z2r {x:yc} (hx:za9 x=true):evts x=zbm (zdw x):=by
 have hf:=(zn3 hx).1
 rw [zg6]
 unfold evts
 rw [zpp hx]
 revert hf
 generalize zdw x=z
 intro hf
 have e1:∀ i:Nat,i<z.unions.length→(!decide (((z.unions.getD i w9).to)=(-1)))=decide (0≤(z.unions.getD i w9).to):=fun i hi=>by
  have h:=fam_u hf hi
  have h1:=h.to
  have h2:=h.from0
  have h3:=(fam_p hf (k:=(z.unions.getD i w9).man.toNat) (by have:=h.man;omega)).born
  by_cases c:(z.unions.getD i w9).to=-1
  ·rw [decide_eq_true c,decide_eq_false om];rfl
  ·rw [decide_eq_false c,decide_eq_true om];rfl
 have e2:∀ i:Nat,i<z.people.length→(!decide (((z.people.getD i w9).died)=(-1)))=decide (0≤(z.people.getD i w9).died):=fun i hi=>by
  have h:=fam_p hf hi
  have h1:=h.died
  have h2:=h.born
  by_cases c:(z.people.getD i w9).died=-1
  ·rw [decide_eq_true c,decide_eq_false om];rfl
  ·rw [decide_eq_false c,decide_eq_true om];rfl
 rw [zg2 (fun p:ya=>yd.mk 1 p.born p.name p.sex p.father p.mother),zg2 (fun u:yb=>yd.mk 2 u.from0 ([]:List UInt8) 0 u.man u.woman),List.nil_append,zjg,zjg]
 rw [List.filter_congr (q:=fun i=>decide (0≤(z.unions.getD i w9).to)) (fun i hi=>e1 i (yU.1 hi)),List.filter_congr (q:=fun i=>decide (0≤(z.people.getD i w9).died)) (fun i hi=>e2 i (yU.1 hi))]
 show (bif decide (2≤(zda z).length) then zmi (yj.mk (zda z)) () else zmh (yk.mk (zda z)) ())=_
 have hl:=zji hf
 cases c:decide (2≤(zda z).length)<;>simp only [cond_true,cond_false]
 ·exact xs_val c
 ·exact ws_val (zkg z) om
theorem zty (x:yc):zb3 x=zi6 x:=by
 unfold zb3 zi6
 rw [zdl]
 cases c:za9 x
 ·rfl
 ·simp only [y6,cond_false];exact z2r c
theorem zmd {keys : List Int} : ∀ {l m : List Int}, l.Pairwise (kLt keys) → m.Pairwise (kLt keys) → l.Perm m → l = m
  | [],m,_,_,hp=>(List.Perm.nil_eq hp)
  | a :: l,[],_,_,hp=>absurd hp.length_eq zas
  | a :: l,b :: m,hl,hm,hp=>by
    obtain ⟨hl1,hl2⟩:=YJ.1 hl
    obtain ⟨hm1,hm2⟩:=YJ.1 hm
    have h1:a∈b :: m:=hp.mem_iff.1 Yq
    have h2:b∈a :: l:=hp.mem_iff.2 Yq
    have hab:a=b:=by
      rcases yL.1 h1 with e | e
      · exact e
      · rcases yL.1 h2 with e2 | e2
        · exact e2.symm
        · have g1:=hm1 a e
          have g2:=hl1 b e2
          unfold kLt at g1 g2
          omega
    subst hab
    rw [zmd hl2 hm2 (List.Perm.cons_inv hp)]
theorem zv5 {α:Type} [Inhabited α] (f:α→Int) (l:List α) (hs:∀ i j:Nat,i≤j→j<l.length→f (l.getD i w9)≤f (l.getD j w9)):zb7 (l.map f)=upto l.length:=by
 have ho:=(zhe (l.map f)).pw
 refine zmd ho ?_ (zgd f l)
 refine List.Pairwise.imp_of_mem (fun {a b} ha hb h=>?_) (zug l.length)
 have ha:=mem_upto.1 ha
 have hb:=mem_upto.1 hb
 unfold kLt
 rw [zdx f om,zdx f om]
 have:=hs a.toNat b.toNat om om
 omega
theorem z4z {x:yc} (hx:za9 x=true):zbo x (upto x.people.length)=x:=by
 have h:=zzk (x:=x) (List.Perm.refl (upto x.people.length))
 have hp:∀ q:Int,0≤q→q<x.people.length→(zby (upto x.people.length) ((x.people.length:Nat):Int)).1.getD q.toNat w9=q:=fun q h0 h1=>by
  obtain ⟨g1,g2⟩:=h.pos q h0 h1
  rw [zkk om] at g2
  omega
 obtain ⟨P,U⟩:=x
 unfold zbo
 dsimp only at h hp ⊢
 congr 1
 ·refine ext_g (by rw [yY,zef]) fun k hk=>?_
  rw [yY,zef] at hk
  rw [zdx (fun i:Int=>zc0 (zby (upto P.length) ((P.length:Nat):Int)).1 (P.getD i.toNat w9)) (by rw [zef];exact hk),zkk hk,yQ]
  have p:=fam_p hx (k:=k) hk
  have fa:=p.fa
  have mo:=p.mo
  dsimp only at fa mo
  unfold zc0
  have e1:(bif decide (0≤(P.getD k w9).father) then (zby (upto P.length) ((P.length:Nat):Int)).1.getD (P.getD k w9).father.toNat w9 else (P.getD k w9).father)=(P.getD k w9).father:=by
   cases c:decide (0≤(P.getD k w9).father)
   ·rfl
   ·have c:=of_decide_eq_true c;exact hp _ c om
  have e2:(bif decide (0≤(P.getD k w9).mother) then (zby (upto P.length) ((P.length:Nat):Int)).1.getD (P.getD k w9).mother.toNat w9 else (P.getD k w9).mother)=(P.getD k w9).mother:=by
   cases c:decide (0≤(P.getD k w9).mother)
   ·rfl
   ·have c:=of_decide_eq_true c;exact hp _ c om
  rw [e1,e2]
 ·refine ext_g (by rw [yY]) fun k hk=>?_
  rw [yY] at hk
  rw [zdx (zj3 (zby (upto P.length) ((P.length:Nat):Int)).1) hk]
  have u:=fam_u hx (k:=k) hk
  have hm:=u.man
  have hw:=u.woman
  dsimp only at hm hw
  unfold zj3
  rw [hp _ hm.1 hm.2,hp _ hw.1 hw.2]
theorem zn2 {x:yc} (hx:za9 x=true) (hy:Years x):zdw x=x:=by
 have e1:zb9 x=upto x.people.length:=zv5 (fun p:ya=>p.born) x.people hy.p
 rw [zlw hx,e1,z4z hx]
 have e2:zhv x=upto x.unions.length:=zv5 (fun u:yb=>u.from0) x.unions hy.u
 rw [e2,zkj]

def bEv (x:yc) (i:Nat):yd:=yd.mk 1 (x.people.getD i w9).born (x.people.getD i w9).name (x.people.getD i w9).sex (x.people.getD i w9).father (x.people.getD i w9).mother
def uEv (x:yc) (i:Nat):yd:=yd.mk 2 (x.unions.getD i w9).from0 [] 0 (x.unions.getD i w9).man (x.unions.getD i w9).woman
def pEv (x:yc) (i:Nat):yd:=yd.mk 3 (x.unions.getD i w9).to [] 0 (x.unions.getD i w9).man (x.unions.getD i w9).woman
def dEv (x:yc) (i:Nat):yd:=yd.mk 4 (x.people.getD i w9).died [] 0 ((i:Nat):Int) 0
theorem ztf {α β:Type} [Inhabited α] (f:α→β) (l:List α):l.map f=(yO l.length).map fun i=>f (l.getD i w9):=by
 apply List.ext_getElem zas
 intro k h1 h2
 rw [yY] at h1
 simp [yn,List.getElem?_eq_getElem h1]
theorem zfs (x:yc):zda x=((((yO x.people.length).map (bEv x))++((yO x.unions.length).map (uEv x)))++(((yO x.unions.length).filter fun i=>decide (0≤(x.unions.getD i w9).to)).map (pEv x)))++(((yO x.people.length).filter fun i=>decide (0≤(x.people.getD i w9).died)).map (dEv x)):=by
 unfold zda
 rw [ztf (fun p:ya=>yd.mk 1 p.born p.name p.sex p.father p.mother),ztf (fun u:yb=>yd.mk 2 u.from0 ([]:List UInt8) 0 u.man u.woman)]
 rfl
theorem zfh {x:yc} {e:yd} (h:e∈zda x):(∃ i,i<x.people.length∧e=bEv x i)∨(∃ i,i<x.unions.length∧e=uEv x i)∨(∃ i,i<x.unions.length∧0≤(x.unions.getD i w9).to∧e=pEv x i)∨∃ i,i<x.people.length∧0≤(x.people.getD i w9).died∧e=dEv x i:=by
 rw [zfs] at h
 rcases yG.1 h with h | h
 ·rcases yG.1 h with h | h
  ·rcases yG.1 h with h | h
   ·obtain ⟨i,hi,rfl⟩:=yZ.1 h;exact .inl ⟨i,yU.1 hi,rfl⟩
   ·obtain ⟨i,hi,rfl⟩:=yZ.1 h;exact .inr (.inl ⟨i,yU.1 hi,rfl⟩)
  ·obtain ⟨i,hi,rfl⟩:=yZ.1 h
   obtain ⟨h1,h2⟩:=Yf.1 hi
   exact .inr (.inr (.inl ⟨i,yU.1 h1,of_decide_eq_true h2,rfl⟩))
 ·obtain ⟨i,hi,rfl⟩:=yZ.1 h
  obtain ⟨h1,h2⟩:=Yf.1 hi
  exact .inr (.inr (.inr ⟨i,yU.1 h1,of_decide_eq_true h2,rfl⟩))
theorem zsg {x:yc} {i:Nat} (h:i<x.people.length):bEv x i∈zda x:=by
 rw [zfs]
 exact YP _ (YP _ (YP _ (yZ.2 ⟨i,yU.2 h,rfl⟩)))
theorem zys {x:yc} {i:Nat} (h:i<x.unions.length):uEv x i∈zda x:=by
 rw [zfs]
 exact YP _ (YP _ (YX _ (yZ.2 ⟨i,yU.2 h,rfl⟩)))
theorem z41 {x:yc} {i:Nat} (h:i<x.unions.length) (h2:0≤(x.unions.getD i w9).to):pEv x i∈zda x:=by
 rw [zfs]
 exact YP _ (YX _ (yZ.2 ⟨i,Yf.2 ⟨yU.2 h,decide_eq_true h2⟩,rfl⟩))
theorem z5i {x:yc} {i:Nat} (h:i<x.people.length) (h2:0≤(x.people.getD i w9).died):dEv x i∈zda x:=by
 rw [zfs]
 exact YX _ (yZ.2 ⟨i,Yf.2 ⟨yU.2 h,decide_eq_true h2⟩,rfl⟩)
theorem zsh {x:yc} (hx:za9 x=true) {i j:Nat} (hi:i<x.people.length) (hj:j<x.people.length) (h:bEv x i=bEv x j):i=j:=by
 have e:(x.people.getD i w9).name=(x.people.getD j w9).name:=congrArg yd.name h
 rcases wN i j with g | g | g
 ·exact absurd e ((fam_p hx hj).uniq i g)
 ·exact g
 ·exact absurd e.symm ((fam_p hx hi).uniq j g)
theorem zqd {x:yc} (hx:za9 x=true) {i j:Nat} (hi:i<x.unions.length) (hj:j<x.unions.length) (h1:(x.unions.getD i w9).man=(x.unions.getD j w9).man) (h2:(x.unions.getD i w9).woman=(x.unions.getD j w9).woman):i=j:=by
 rcases wN i j with g | g | g
 ·exact absurd h2 ((fam_u hx hj).uniq i g h1)
 ·exact g
 ·exact absurd h2.symm ((fam_u hx hi).uniq j g h1.symm)
theorem zk2 {α β:Type} {f:α→β} {l:List α} (hn:l.Nodup) (h:∀ a∈l,∀ b∈l,f a=f b→a=b):(l.map f).Nodup:=by
 rw [YO,wz]
 exact List.Pairwise.imp_of_mem (fun {a b} ha hb hab e=>hab (h a ha b hb e)) (YO.1 hn)
theorem zmu {x:yc} (hx:za9 x=true):(zda x).Nodup:=by
 have hr:∀ n:Nat,(yO n).Nodup:=fun n=>List.nodup_range
 rw [zfs]
 refine wP.2 ⟨wP.2 ⟨wP.2 ⟨zk2 (hr _) fun a ha b hb e => zsh hx (yU.1 ha) (yU.1 hb) e, zk2 (hr _) fun a ha b hb e => zqd hx (yU.1 ha) (yU.1 hb) (congrArg yd.a e) (congrArg yd.b e), fun a ha b hb => ?_⟩,
   zk2 ((hr _).filter _) fun a ha b hb e=>zqd hx (yU.1 (Yf.1 ha).1) (yU.1 (Yf.1 hb).1) (congrArg yd.a e) (congrArg yd.b e),fun a ha b hb=>?_⟩,
   zk2 ((hr _).filter _) fun a ha b hb e=>(by have h9:((a:Nat):Int)=((b:Nat):Int):=congrArg yd.a e;omega),fun a ha b hb=>?_⟩
 ·obtain ⟨i,_,rfl⟩:=yZ.1 ha
  obtain ⟨j,_,rfl⟩:=yZ.1 hb
  intro e;exact absurd (congrArg yd.kind e) (by decide:¬ (1:Int)=2)
 ·obtain ⟨j,_,rfl⟩:=yZ.1 hb
  rcases yG.1 ha with ha | ha
  ·obtain ⟨i,_,rfl⟩:=yZ.1 ha
   intro e;exact absurd (congrArg yd.kind e) (by decide:¬ (1:Int)=3)
  ·obtain ⟨i,_,rfl⟩:=yZ.1 ha
   intro e;exact absurd (congrArg yd.kind e) (by decide:¬ (2:Int)=3)
 ·obtain ⟨j,_,rfl⟩:=yZ.1 hb
  rcases yG.1 ha with ha | ha
  ·rcases yG.1 ha with ha | ha
   ·obtain ⟨i,_,rfl⟩:=yZ.1 ha
    intro e;exact absurd (congrArg yd.kind e) (by decide:¬ (1:Int)=4)
   ·obtain ⟨i,_,rfl⟩:=yZ.1 ha
    intro e;exact absurd (congrArg yd.kind e) (by decide:¬ (2:Int)=4)
  ·obtain ⟨i,_,rfl⟩:=yZ.1 ha
   intro e;exact absurd (congrArg yd.kind e) (by decide:¬ (3:Int)=4)
theorem zcd (x:yc):(zbm x).Perm (zda x):=by
 rw [zg6]
 have h:=(zgd evKey (zda x)).map fun k:Int=>(zda x).getD k.toNat w9
 rw [zkj] at h
 exact h
theorem zh3 (x:yc):(zbm x).Pairwise fun a b=>evKey a≤evKey b:=by
 rw [zg6]
 refine ((zv4 evKey (zda x)).1).imp fun {a b} h=>?_
 unfold byKey at h
 have:=of_decide_eq_false h
 omega
theorem zmn {α:Type} [Inhabited α] (f:α→Int) (l:List α) (q:α→Bool) (hs:(l.filter q).Pairwise fun a b=>f a≤f b):((zb7 (l.map f)).map fun k=>l.getD k.toNat w9).filter q=l.filter q:=by
 have ho:=zhe (l.map f)
 have hp:=zgd f l
 have e:l.filter q=((upto l.length).map fun k=>l.getD k.toNat w9).filter q:=by rw [zkj]
 rw [e,wX] at hs
 rw [e,wX,wX]
 congr 1
 refine zmd (keys:=l.map f) (ho.pw.filter _) ?_ (hp.filter _)
 rw [wz] at hs
 refine List.Pairwise.imp_of_mem (R:=fun a b=>a<b∧f (l.getD a.toNat w9)≤f (l.getD b.toNat w9)) (fun {a b} ha hb h=>?_) (List.Pairwise.and ((zug l.length).filter _) hs)
 have ha:=mem_upto.1 (Yf.1 ha).1
 have hb:=mem_upto.1 (Yf.1 hb).1
 unfold kLt
 rw [zdx f om,zdx f om]
 omega
theorem zws {α β:Type} (f:α→β) (q:β→Bool) (l:List α) (h:∀ a,q (f a)=true):(l.map f).filter q=l.map f:=by
 rw [List.filter_eq_self]
 intro b hb
 obtain ⟨a,_,rfl⟩:=yZ.1 hb
 exact h a
theorem zjh {α β:Type} (f:α→β) (q:β→Bool) (l:List α) (h:∀ a,q (f a)=false):(l.map f).filter q=[]:=by
 rw [wm]
 intro b hb
 obtain ⟨a,_,rfl⟩:=yZ.1 hb
 rw [h a];simp
def isK (k:Int) (e:yd):Bool:=decide (e.kind=k)
theorem zwu (x:yc):(zda x).filter (isK 1)=(yO x.people.length).map (bEv x):=by
 rw [zfs,Yi,Yi,Yi,zws (bEv x) _ _ (fun a=>rfl),zjh (uEv x) _ _ (fun a=>rfl),zjh (pEv x) _ _ (fun a=>rfl),zjh (dEv x) _ _ (fun a=>rfl)]
 simp
theorem zwt (x:yc):(zda x).filter (isK 2)=(yO x.unions.length).map (uEv x):=by
 rw [zfs,Yi,Yi,Yi,zjh (bEv x) _ _ (fun a=>rfl),zws (uEv x) _ _ (fun a=>rfl),zjh (pEv x) _ _ (fun a=>rfl),zjh (dEv x) _ _ (fun a=>rfl)]
 simp
theorem zvz {n:Nat} {β:Type} (f:Nat→β) (R:β→β→Prop) (h:∀ i j:Nat,i<j→j<n→R (f i) (f j)):((yO n).map f).Pairwise R:=by
 rw [wz]
 exact List.Pairwise.imp_of_mem (fun {a b} ha hb hab=>h a b hab (yU.1 hb)) List.pairwise_lt_range
theorem zlx {x:yc} (hy:Years x):(zbm x).filter (isK 1)=(yO x.people.length).map (bEv x):=by
 rw [zg6,zmn,zwu]
 rw [zwu]
 refine zvz (bEv x) (fun a b=>evKey a≤evKey b) fun i j hij hj=>?_
 have h:(x.people.getD i w9).born≤(x.people.getD j w9).born:=hy.p i j om hj
 show 8 * (x.people.getD i w9).born+1≤8 * (x.people.getD j w9).born+1
 omega
theorem zqg {x:yc} (hy:Years x):(zbm x).filter (isK 2)=(yO x.unions.length).map (uEv x):=by
 rw [zg6,zmn,zwt]
 rw [zwt]
 refine zvz (uEv x) (fun a b=>evKey a≤evKey b) fun i j hij hj=>?_
 have h:(x.unions.getD i w9).from0≤(x.unions.getD j w9).from0:=hy.u i j om hj
 show 8 * (x.unions.getD i w9).from0+2≤8 * (x.unions.getD j w9).from0+2
 omega
structure BdI (x:yc) (L:List yd) (p:List ya) (u:List yb):Prop where
 pl:p.length=(L.filter (isK 1)).length
 ul:u.length=(L.filter (isK 2)).length
 pg : ∀ j : Nat, j < p.length → p.getD j w9 = ya.mk (x.people.getD j w9).name (x.people.getD j w9).sex (x.people.getD j w9).father (x.people.getD j w9).mother (x.people.getD j w9).born (p.getD j w9).died ∧
   ((dEv x j∈L∧(p.getD j w9).died=(x.people.getD j w9).died)∨(dEv x j ∉ L∧(p.getD j w9).died=-1))
 ug : ∀ j : Nat, j < u.length → u.getD j w9 = yb.mk (x.unions.getD j w9).man (x.unions.getD j w9).woman (x.unions.getD j w9).from0 (u.getD j w9).to ∧
   ((pEv x j∈L∧(u.getD j w9).to=(x.unions.getD j w9).to)∨(pEv x j ∉ L∧(u.getD j w9).to=-1))
theorem zof {α:Type} {L R:List α} {n:Nat} {f:Nat→α} (h:L++R=(yO n).map f):L.length≤n∧L=(yO L.length).map f∧(∀ e R',R=e :: R'→L.length<n∧e=f L.length):=by
 have hl:=congrArg List.length h
 rw [yo,yY,wM] at hl
 have hk:∀ k,k<n→(L++R)[k]?=some (f k):=fun k hk=>by rw [h,Ys,wj hk];rfl
 refine ⟨om,?_,fun e R' hR=>?_⟩
 ·apply List.ext_getElem?
  intro k
  rcases Nat.lt_or_ge k L.length with g | g
  ·have:=hk k om
   rw [List.getElem?_append_left g] at this
   rw [this,Ys,wj g];rfl
  ·rw [Ya g,Ya (by rw [yY,wM];exact g)]
 ·subst hR
  rw [List.length_cons] at hl
  have:=hk L.length om
  rw [List.getElem?_append_right (yu _),Nat.sub_self,List.getElem?_cons_zero] at this
  exact ⟨om,Option.some.inj this⟩
section
variable {x:yc} {L:List yd} {R:List yd} {p:List ya} {u:List yb}
theorem z00 (hy:Years x) (hA:zbm x=L++R) (h:BdI x L p u) (hx:za9 x=true):p.length≤x.people.length∧∀ j:Nat,j<x.people.length→(bEv x j∈L↔j<p.length):=by
 have e:=zlx hy
 rw [hA,Yi] at e
 obtain ⟨h1,h2,_⟩:=zof e
 rw [← h.pl] at h1 h2
 refine ⟨h1,fun j hj=>⟨fun hm=>?_,fun hm=>?_⟩⟩
 ·have:bEv x j∈L.filter (isK 1):=Yf.2 ⟨hm,rfl⟩
  rw [h2] at this
  obtain ⟨i,hi,ei⟩:=yZ.1 this
  have hi:=yU.1 hi
  have:=zsh hx om hj ei
  omega
 ·have:bEv x j∈L.filter (isK 1):=by rw [h2];exact yZ.2 ⟨j,yU.2 hm,rfl⟩
  exact (Yf.1 this).1
theorem z3s (hy:Years x) (hA:zbm x=L++R) (h:BdI x L p u) (hx:za9 x=true):u.length≤x.unions.length∧∀ j:Nat,j<x.unions.length→(uEv x j∈L↔j<u.length):=by
 have e:=zqg hy
 rw [hA,Yi] at e
 obtain ⟨h1,h2,_⟩:=zof e
 rw [← h.ul] at h1 h2
 refine ⟨h1,fun j hj=>⟨fun hm=>?_,fun hm=>?_⟩⟩
 ·have:uEv x j∈L.filter (isK 2):=Yf.2 ⟨hm,rfl⟩
  rw [h2] at this
  obtain ⟨i,hi,ei⟩:=yZ.1 this
  have hi:=yU.1 hi
  have:=zqd hx om hj (congrArg yd.a ei) (congrArg yd.b ei)
  omega
 ·have:uEv x j∈L.filter (isK 2):=by rw [h2];exact yZ.2 ⟨j,yU.2 hm,rfl⟩
  exact (Yf.1 this).1
theorem zlr {e f:yd} (hA:zbm x=L++e :: R) (hf:f∈zda x) (hk:evKey f<evKey e):f∈L:=by
 have h1:f∈zbm x:=(zcd x).mem_iff.2 hf
 have h2:=zh3 x
 rw [hA] at h1 h2
 obtain ⟨_,h3,_⟩:=wR.1 h2
 obtain ⟨h4,_⟩:=YJ.1 h3
 rcases yG.1 h1 with g | g
 ·exact g
 ·rcases yL.1 g with g | g
  ·subst g;omega
  ·have:=h4 f g;omega
theorem z0z {e f:yd} (hA:zbm x=L++e :: R) (hf:f∈L):evKey f≤evKey e:=by
 have h2:=zh3 x
 rw [hA] at h2
 exact (wR.1 h2).2.2 f hf e Yq
theorem z3t {e:yd} (hx:za9 x=true) (hA:zbm x=L++e :: R):e ∉ L:=by
 have h:=(zcd x).nodup_iff.2 (zmu hx)
 rw [hA] at h
 exact fun hm=>(wP.1 h).2.2 e hm e Yq rfl
theorem zu8 (k:Int) {e:yd} (h:isK k e=true):(L++[e]).filter (isK k)=L.filter (isK k)++[e]:=by rw [Yi,YD,h];simp
theorem zkf (k:Int) {e:yd} (h:isK k e=false):(L++[e]).filter (isK k)=L.filter (isK k):=by rw [Yi,YD,h];simp
theorem zl7 {f e:yd} (h:f.kind≠e.kind):f∈L++[e]↔f∈L:=by
 rw [yG,yN]
 exact ⟨fun h9=>h9.elim id fun e9=>absurd (congrArg yd.kind e9) h,.inl⟩
theorem zu0 {f:yc} {a b:Int} {i:Nat} (hi:i<f.unions.length) (h1:(f.unions.getD i w9).man=a∧(f.unions.getD i w9).woman=b) (h2:∀ j:Nat,j<i→¬ ((f.unions.getD j w9).man=a∧(f.unions.getD j w9).woman=b)):zcn f a b=((i:Nat):Int):=by
 unfold zcn
 refine zbx (fun k (v:Unit)=>k≤i) (fun r=>r=((i:Nat):Int)) (Yh _) (fun k v next hk hv hn=>?_) (fun v hv=>by omega)
 by_cases c:k=i
 ·subst c
  rw [decide_eq_true h1.1,decide_eq_true h1.2];rfl
 ·have h3:=h2 k om
  have:(decide (((f.unions.getD k w9).man)=a)&&decide (((f.unions.getD k w9).woman)=b))=false:=by
   cases c:(decide (((f.unions.getD k w9).man)=a)&&decide (((f.unions.getD k w9).woman)=b))
   ·rfl
   ·simp only [Bool.and_eq_true,decide_eq_true_eq] at c
    exact absurd c h3
  rw [this]
  exact hn _ om
theorem z5j {e:yd} (hx:za9 x=true) (hy:Years x) (hA:zbm x=L++e :: R) (h:BdI x L p u):(l11Do ⟨p,u⟩ e).2=true∧BdI x (L++[e]) (l11Do ⟨p,u⟩ e).1.people (l11Do ⟨p,u⟩ e).1.unions:=by
 have he:e∈zda x:=(zcd x).mem_iff.1 (by rw [hA];exact YX _ Yq)
 have hb:=z00 hy hA h hx
 have hw:=z3s hy hA h hx
 have hn:=fam_n hx
 have hin:∀ q:Int,0≤q∧q<x.people.length→8 * (x.people.getD q.toNat w9).born+1<evKey e→q<p.length:=fun q hq hk=>by
  have:=(hb.2 q.toNat om).1 (zlr hA (zsg om) hk)
  omega
 rcases zfh he with ⟨i,hi,rfl⟩ | ⟨i,hi,rfl⟩ | ⟨i,hi,h0,rfl⟩ | ⟨i,hi,h0,rfl⟩
 ·have e1:=zlx hy
  rw [hA,Yi,YD,show isK 1 (bEv x i)=true from rfl,if_pos rfl] at e1
  obtain ⟨g1,_,g3⟩:=zof e1
  obtain ⟨g4,g5⟩:=g3 _ _ rfl
  rw [← h.pl] at g4 g5
  have hip:=zsh hx hi g4 g5
  subst hip
  have hv:l11Do ⟨p,u⟩ (bEv x p.length)=(⟨p++[ya.mk (x.people.getD p.length w9).name (x.people.getD p.length w9).sex (x.people.getD p.length w9).father (x.people.getD p.length w9).mother (x.people.getD p.length w9).born (-1)],u⟩,true):=by
   unfold l11Do bEv
   rw [decide_eq_true rfl]
   simp only [y6,Bool.false_and,cond_false,cond_true]
   rw [decide_eq_true om]
  rw [hv]
  refine ⟨rfl,?_,?_,fun j hj=>?_,fun j hj=>?_⟩
  ·rw [zu8 1 rfl,yo,yo,h.pl];rfl
  ·rw [zkf 2 rfl];exact h.ul
  ·dsimp only at hj ⊢
   rw [zl7 (show (dEv x j).kind≠(bEv x p.length).kind by intro c;exact absurd c (by decide:¬ (4:Int)=1))]
   rw [yo,yE] at hj
   rw [zcu]
   by_cases c:j<p.length
   ·rw [if_pos c];exact h.pg j c
   ·have:j=p.length:=by omega
    subst this
    rw [if_neg c,if_pos rfl]
    refine ⟨rfl,.inr ⟨fun hm=>?_,rfl⟩⟩
    have k1:8 * (x.people.getD p.length w9).died+4≤8 * (x.people.getD p.length w9).born+1:=z0z hA hm
    have hm2:dEv x p.length∈zda x:=(zcd x).mem_iff.1 (by rw [hA];exact YP _ hm)
    have k2:=(fam_p hx hi).died
    have k3:=(fam_p hx hi).born
    rcases zfh hm2 with ⟨i2,_,q⟩ | ⟨i2,_,q⟩ | ⟨i2,_,_,q⟩ | ⟨i2,_,q0,q⟩
    ·exact absurd (congrArg yd.kind q) (by decide:¬ (4:Int)=1)
    ·exact absurd (congrArg yd.kind q) (by decide:¬ (4:Int)=2)
    ·exact absurd (congrArg yd.kind q) (by decide:¬ (4:Int)=3)
    ·have q2:(x.people.getD p.length w9).died=(x.people.getD i2 w9).died:=congrArg yd.year q
     omega
  ·rw [zl7 (show (pEv x j).kind≠(bEv x p.length).kind by intro c;exact absurd c (by decide:¬ (3:Int)=1))]
   exact h.ug j hj
 ·have e1:=zqg hy
  rw [hA,Yi,YD,show isK 2 (uEv x i)=true from rfl,if_pos rfl] at e1
  obtain ⟨g1,_,g3⟩:=zof e1
  obtain ⟨g4,g5⟩:=g3 _ _ rfl
  rw [← h.ul] at g4 g5
  have hip:=zqd hx hi g4 (congrArg yd.a g5) (congrArg yd.b g5)
  subst hip
  have f:=fam_u hx hi
  have fm:=f.man;have fw:=f.woman;have ff:=f.from0
  have kk:evKey (uEv x u.length)=8 * (x.unions.getD u.length w9).from0+2:=rfl
  have hm:=hin _ fm om
  have hwm:=hin _ fw om
  have hv:l11Do ⟨p,u⟩ (uEv x u.length)=(⟨p,u++[yb.mk (x.unions.getD u.length w9).man (x.unions.getD u.length w9).woman (x.unions.getD u.length w9).from0 (-1)]⟩,true):=by
   unfold l11Do uEv l1In
   dsimp only
   rw [decide_eq_true (show 0≤(x.unions.getD u.length w9).man by omega),decide_eq_true (show (x.unions.getD u.length w9).man≤((p.length:Nat):Int) - 1 by omega),decide_eq_true (show 0≤(x.unions.getD u.length w9).woman by omega),decide_eq_true (show (x.unions.getD u.length w9).woman≤((p.length:Nat):Int) - 1 by omega)]
   rw [decide_eq_true (show ((((u++[yb.mk (x.unions.getD u.length w9).man (x.unions.getD u.length w9).woman (x.unions.getD u.length w9).from0 (-1)]).length:Nat):Int)≤60) by rw [yo,yE];omega)]
   rfl
  rw [hv]
  refine ⟨rfl,?_,?_,fun j hj=>?_,fun j hj=>?_⟩
  ·rw [zkf 1 rfl];exact h.pl
  ·rw [zu8 2 rfl,yo,yo,h.ul];rfl
  ·rw [zl7 (show (dEv x j).kind≠(uEv x u.length).kind by intro c;exact absurd c (by decide:¬ (4:Int)=2))]
   exact h.pg j hj
  ·dsimp only at hj ⊢
   rw [zl7 (show (pEv x j).kind≠(uEv x u.length).kind by intro c;exact absurd c (by decide:¬ (3:Int)=2))]
   rw [yo,yE] at hj
   rw [zcu]
   by_cases c:j<u.length
   ·rw [if_pos c];exact h.ug j c
   ·have:j=u.length:=by omega
    subst this
    rw [if_neg c,if_pos rfl]
    refine ⟨rfl,.inr ⟨fun hm=>?_,rfl⟩⟩
    have k1:8 * (x.unions.getD u.length w9).to+3≤8 * (x.unions.getD u.length w9).from0+2:=z0z hA hm
    have hm2:pEv x u.length∈zda x:=(zcd x).mem_iff.1 (by rw [hA];exact YP _ hm)
    have k2:=f.to
    have k3:=(fam_p hx (k:=(x.unions.getD u.length w9).man.toNat) om).born
    rcases zfh hm2 with ⟨i2,_,q⟩ | ⟨i2,_,q⟩ | ⟨i2,_,q0,q⟩ | ⟨i2,_,q0,q⟩
    ·exact absurd (congrArg yd.kind q) (by decide:¬ (3:Int)=1)
    ·exact absurd (congrArg yd.kind q) (by decide:¬ (3:Int)=2)
    ·have q2:(x.unions.getD u.length w9).to=(x.unions.getD i2 w9).to:=congrArg yd.year q
     omega
    ·exact absurd (congrArg yd.kind q) (by decide:¬ (3:Int)=4)
 ·have f:=fam_u hx hi
  have fm:=f.man;have fw:=f.woman;have ff:=f.from0;have ft:=f.to
  have kk:evKey (pEv x i)=8 * (x.unions.getD i w9).to+3:=rfl
  have hm:=hin _ fm om
  have hiu : i < u.length := (hw.2 i hi).1 (zlr hA (zys hi) (by
    show 8 * (x.unions.getD i w9).from0+2<_
    omega))
  have hg:=fun j hj=>(h.ug j hj).1
  have hat:zcn ⟨p,u⟩ (x.unions.getD i w9).man (x.unions.getD i w9).woman=((i:Nat):Int):=by
   refine zu0 (f:=⟨p,u⟩) hiu (by dsimp only;rw [hg i hiu];exact ⟨rfl,rfl⟩) fun j hj c=>?_
   dsimp only at c
   rw [hg j om] at c
   have:=zqd hx (show j<x.unions.length by omega) hi c.1 c.2
   omega
  have hto:(u.getD i w9).to=-1:=by
   rcases (h.ug i hiu).2 with g | g
   ·exact absurd g.1 (z3t hx hA)
   ·exact g.2
  have hv:l11Do ⟨p,u⟩ (pEv x i)=(⟨p,u.set i (yb.mk (x.unions.getD i w9).man (x.unions.getD i w9).woman (x.unions.getD i w9).from0 (x.unions.getD i w9).to)⟩,true):=by
   unfold l11Do pEv l1In
   dsimp only
   rw [hat,decide_eq_true (show 0≤(x.unions.getD i w9).man by omega),decide_eq_true (show (x.unions.getD i w9).man≤((p.length:Nat):Int) - 1 by omega),yQ,hto,decide_eq_false (show ¬ ((i:Nat):Int)<0 by omega)]
   have e9:=hg i hiu
   have e1:(u.getD i w9).man=(x.unions.getD i w9).man:=by rw [e9]
   have e2:(u.getD i w9).woman=(x.unions.getD i w9).woman:=by rw [e9]
   have e3:(u.getD i w9).from0=(x.unions.getD i w9).from0:=by rw [e9]
   rw [e1,e2,e3]
   rfl
  rw [hv]
  refine ⟨rfl,?_,?_,fun j hj=>?_,fun j hj=>?_⟩
  ·rw [zkf 1 rfl];exact h.pl
  ·rw [zkf 2 rfl,Ym];exact h.ul
  ·rw [zl7 (show (dEv x j).kind≠(pEv x i).kind by intro c;exact absurd c (by decide:¬ (4:Int)=3))]
   exact h.pg j hj
  ·dsimp only at hj ⊢
   rw [Ym] at hj
   rw [zco]
   by_cases c:j=i
   ·subst c
    rw [if_pos ⟨rfl,hj⟩]
    exact ⟨rfl,.inl ⟨YX _ (yN.2 rfl),rfl⟩⟩
   ·rw [if_neg (fun c2=>c c2.1)]
    have hne:pEv x j∈L++[pEv x i]↔pEv x j∈L:=by
     rw [yG,yN]
     exact ⟨fun h9=>h9.elim id fun e9=>absurd (zqd hx om hi (congrArg yd.a e9) (congrArg yd.b e9)) c,.inl⟩
    rw [hne]
    exact h.ug j hj
 ·have f:=fam_p hx hi
  have fb:=f.born;have fd:=f.died
  have kk:evKey (dEv x i)=8 * (x.people.getD i w9).died+4:=rfl
  have hip : i < p.length := (hb.2 i hi).1 (zlr hA (zsg hi) (by
    show 8 * (x.people.getD i w9).born+1<_
    omega))
  have hg:=fun j hj=>(h.pg j hj).1
  have hto:(p.getD i w9).died=-1:=by
   rcases (h.pg i hip).2 with g | g
   ·exact absurd g.1 (z3t hx hA)
   ·exact g.2
  have hv:l11Do ⟨p,u⟩ (dEv x i)=(⟨p.set i (ya.mk (x.people.getD i w9).name (x.people.getD i w9).sex (x.people.getD i w9).father (x.people.getD i w9).mother (x.people.getD i w9).born (x.people.getD i w9).died),u⟩,true):=by
   unfold l11Do dEv l1In
   dsimp only
   rw [decide_eq_true (show (0:Int)≤((i:Nat):Int) by omega),decide_eq_true (show ((i:Nat):Int)≤((p.length:Nat):Int) - 1 by omega),yQ,hto]
   have e9:=hg i hip
   have e1:(p.getD i w9).name=(x.people.getD i w9).name:=by rw [e9]
   have e2:(p.getD i w9).sex=(x.people.getD i w9).sex:=by rw [e9]
   have e3:(p.getD i w9).father=(x.people.getD i w9).father:=by rw [e9]
   have e4:(p.getD i w9).mother=(x.people.getD i w9).mother:=by rw [e9]
   have e5:(p.getD i w9).born=(x.people.getD i w9).born:=by rw [e9]
   rw [e1,e2,e3,e4,e5]
   rfl
  rw [hv]
  refine ⟨rfl,?_,?_,fun j hj=>?_,fun j hj=>?_⟩
  ·rw [zkf 1 rfl,Ym];exact h.pl
  ·rw [zkf 2 rfl];exact h.ul
  ·dsimp only at hj ⊢
   rw [Ym] at hj
   rw [zco]
   by_cases c:j=i
   ·subst c
    rw [if_pos ⟨rfl,hj⟩]
    exact ⟨rfl,.inl ⟨YX _ (yN.2 rfl),rfl⟩⟩
   ·rw [if_neg (fun c2=>c c2.1)]
    have hne:dEv x j∈L++[dEv x i]↔dEv x j∈L:=by
     rw [yG,yN]
     exact ⟨fun h9=>h9.elim id fun e9=>absurd (show ((j:Nat):Int)=((i:Nat):Int) from congrArg yd.a e9) om,.inl⟩
    rw [hne]
    exact h.pg j hj
  ·rw [zl7 (show (pEv x j).kind≠(dEv x i).kind by intro c;exact absurd c (by decide:¬ (3:Int)=4))]
   exact h.ug j hj
end
theorem zjs {α : Type} (f : α → Int) (y : Int) : ∀ (l : List α), l.Pairwise (fun a b => f a ≤ f b) → ∃ c : Nat, c ≤ l.length ∧ l.filter (fun e => decide (f e ≤ y)) = l.take c ∧ (∀ e ∈ l.take c, f e ≤ y) ∧ ∀ e ∈ l.drop c, y < f e
  | [],_=>⟨0,yu _,rfl,fun e he=>absurd he Yd,fun e he=>absurd he Yd⟩
  | a :: l,h=>by
    obtain ⟨h1,h2⟩:=YJ.1 h
    by_cases c:f a≤y
    · obtain ⟨n,g0,g1,g2,g3⟩:=zjs f y l h2
      refine ⟨n+1,by simp;exact g0,by rw [YD,decide_eq_true c,if_pos rfl,g1];rfl,fun e he=>?_,g3⟩
      rcases yL.1 he with e1 | e1
      · subst e1;exact c
      · exact g2 e e1
    · refine ⟨0,Yh _,?_,fun e he=>absurd he Yd,fun e he=>?_⟩
      · rw [List.take_zero,wm]
        intro e he
        rcases yL.1 he with e1 | e1
        · subst e1;simpa using c
        · have:=h1 e e1;simp;omega
      · rcases yL.1 he with e1 | e1
        · subst e1;omega
        · have:=h1 e e1;omega
theorem zn4 (x:yc):(zbm x).Pairwise fun a b=>a.year≤b.year:=by
 refine List.Pairwise.imp_of_mem (fun {a b} ha hb h=>?_) (zh3 x)
 have h1:=zkg x a ((zcd x).mem_iff.1 ha)
 have h2:=zkg x b ((zcd x).mem_iff.1 hb)
 unfold evKey at h
 omega
theorem zvq {x:yc} (hx:za9 x=true) (hy:Years x) (y:Int):zbh ((zbm x).filter fun e=>decide (e.year≤y))=(zdh x y,true):=by
 obtain ⟨c,hc,e1,h1,h2⟩:=zjs (fun e:yd=>e.year) y (zbm x) (zn4 x)
 rw [e1]
 have hlen:((zbm x).take c).length=c:=by rw [List.length_take];omega
 have hget:∀ i:Nat,i<c→((zbm x).take c).getD i w9=(zbm x).getD i w9:=fun i hi=>by
  rw [yn,yn,List.getElem?_take,if_pos hi]
 have hsp:∀ i:Nat,i<c→zbm x=(zbm x).take i++(zbm x).getD i w9 :: (zbm x).drop (i+1):=fun i hi=>by
  have e:(zbm x).drop i=(zbm x).getD i w9 :: (zbm x).drop (i+1):=by
   rw [List.drop_eq_getElem_cons om,zme om]
  rw [← e,Y6]
 unfold zbh
 rw [hlen]
 refine zbx (fun i (v:List ya×List yb)=>BdI x ((zbm x).take i) v.1 v.2) (fun r=>r=(zdh x y,true)) ⟨by simp,by simp,fun j hj=>absurd hj (yJ _),fun j hj=>absurd hj (yJ _)⟩ (fun i v next hi hv hn=>?_) (fun v hv=>?_)
 ·have hyr:((decide (0<((i:Nat):Int)))&&(decide (((((zbm x).take c).getD i w9).year)<((((zbm x).take c).getD ((((i:Nat):Int) - 1).toNat) w9).year))))=false:=by
   by_cases c0:0<i
   ·have e9:(((i:Nat):Int) - 1).toNat=i - 1:=by omega
    rw [e9,hget i hi,hget (i - 1) om]
    have:=ziw (zn4 x) i om (i - 1) om
    rw [decide_eq_false (show ¬ ((zbm x).getD i w9).year<((zbm x).getD (i - 1) w9).year by omega),Bool.and_false]
   ·rw [decide_eq_false (show ¬ 0<((i:Nat):Int) by omega),Bool.false_and]
  rw [hyr,hget i hi]
  obtain ⟨s1,s2⟩:=z5j hx hy (hsp i hi) hv
  rw [show (yc.mk v.1 v.2:yc)=⟨v.1,v.2⟩ from rfl,s1]
  simp only [y6,cond_false]
  refine hn _ ?_
  rw [zeb _ w9 om]
  exact s2
 ·have hA:zbm x=(zbm x).take c++(zbm x).drop c:=(Y6 c _).symm
  have hb:=z00 hy hA hv hx
  have hw:=z3s hy hA hv hx
  have hin:∀ e:yd,e∈zda x→(e∈(zbm x).take c∧e.year≤y)∨(e ∉ (zbm x).take c∧y<e.year):=fun e he=>by
   have hm:e∈zbm x:=(zcd x).mem_iff.2 he
   have hnd:=(zcd x).nodup_iff.2 (zmu hx)
   rw [hA] at hm hnd
   rcases yG.1 hm with g | g
   ·exact .inl ⟨g,h1 e g⟩
   ·exact .inr ⟨fun g2=>(wP.1 hnd).2.2 e g2 e g rfl,h2 e g⟩
  have hE:Early x ⟨v.1,v.2⟩ y:=by
   refine ⟨hb.1,fun i hi=>?_,fun i g1 g2=>?_,hw.1,fun i hi=>?_,fun i g1 g2=>?_⟩
   ·dsimp only at hi ⊢
    have hm:=(hb.2 i om).2 hi
    refine ⟨?_,h1 _ hm⟩
    obtain ⟨g1,g2⟩:=hv.pg i hi
    rw [g1]
    unfold clipP
    congr 1
    have fd:=(fam_p hx (k:=i) om).died
    have fb:=(fam_p hx (k:=i) om).born
    rcases g2 with ⟨g2,g3⟩ | ⟨g2,g3⟩
    ·have:(x.people.getD i w9).died≤y:=h1 _ g2
     rw [g3,decide_eq_false om];rfl
    ·rw [g3]
     by_cases c0:0≤(x.people.getD i w9).died
     ·rcases hin _ (z5i (x:=x) (i:=i) om c0) with q | q
      ·exact absurd q.1 g2
      ·have q2:y<(x.people.getD i w9).died:=q.2
       rw [decide_eq_true q2];rfl
     ·have:(x.people.getD i w9).died=-1:=by omega
      rw [this]
      cases decide (y < -1)<;>rfl
   ·dsimp only at g1
    rcases hin _ (zsg g2) with q | q
    ·have:=(hb.2 i g2).1 q.1;omega
    ·exact q.2
   ·dsimp only at hi ⊢
    have hm:=(hw.2 i om).2 hi
    refine ⟨?_,h1 _ hm⟩
    obtain ⟨g1,g2⟩:=hv.ug i hi
    rw [g1]
    unfold clipU
    congr 1
    have ft:=(fam_u hx (k:=i) om).to
    have ff:=(fam_u hx (k:=i) om).from0
    have fm:=(fam_u hx (k:=i) om).man
    have fb:=(fam_p hx (k:=(x.unions.getD i w9).man.toNat) om).born
    rcases g2 with ⟨g2,g3⟩ | ⟨g2,g3⟩
    ·have:(x.unions.getD i w9).to≤y:=h1 _ g2
     rw [g3,decide_eq_false om];rfl
    ·rw [g3]
     by_cases c0:0≤(x.unions.getD i w9).to
     ·rcases hin _ (z41 (x:=x) (i:=i) om c0) with q | q
      ·exact absurd q.1 g2
      ·have q2:y<(x.unions.getD i w9).to:=q.2
       rw [decide_eq_true q2];rfl
     ·have:(x.unions.getD i w9).to=-1:=by omega
      rw [this]
      cases decide (y < -1)<;>rfl
   ·dsimp only at g1
    rcases hin _ (zys g2) with q | q
    ·have:=(hw.2 i g2).1 q.1;omega
    ·exact q.2
  rw [hE.fam hx]
  simp only [y6,cond_false]
  have hK:=zo8 hx hy y
  rw [z0q (Int.le_refl y) hE (zyd hE) hK]
structure EvN (n:Nat) (l:List yd):Prop where
 len:l.length≤n
 nm:∀ e∈l,e.name.length≤1048576
theorem EvN.nil:EvN 0 []:=⟨yu _,fun e he=>absurd he Yd⟩
theorem EvN.mono {n m:Nat} {l:List yd} (h:EvN n l) (hm:n≤m):EvN m l:=⟨Nat.le_trans h.1 hm,h.2⟩
theorem EvN.snoc {n:Nat} {l:List yd} (h:EvN n l) {e:yd} (he:e.name.length≤1048576):EvN (n+1) (l++[e]):=by
 refine ⟨by rw [yo,yE];have:=h.1;omega,fun a ha=>?_⟩
 rcases yG.1 ha with ha | ha
 ·exact h.2 a ha
 ·rw [yN.1 ha];exact he
theorem zpl {f:yc} (hf:za9 f=true) (hy:Years f):zb3 f=zbm f:=by
 rw [zty]
 unfold zi6
 rw [hf,zn2 hf hy];rfl
theorem z0o {f:yc} (hf:za9 f=true) (hy:Years f):EvN 200 (zb3 f):=by
 rw [zpl hf hy]
 refine ⟨by rw [(zcd f).length_eq];exact zji hf,fun e he=>?_⟩
 have hn:=zfr hf
 rcases zfh ((zcd f).mem_iff.1 he) with ⟨i,hi,rfl⟩ | ⟨i,hi,rfl⟩ | ⟨i,hi,_,rfl⟩ | ⟨i,hi,_,rfl⟩
 ·exact hn _ (zdg hi)
 ·exact Yh _
 ·exact Yh _
 ·exact Yh _
end Go.Proofs.YtlinnkjieghmhaaGreatDoor
