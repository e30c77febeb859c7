import Derived.Test.YtlinnkjieghmhaaGreatDoorVS63
set_option maxHeartbeats 4000000
set_option linter.unusedSimpArgs false
set_option linter.unusedVariables false
namespace Go.Proofs.YtlinnkjieghmhaaGreatDoor
open Go Go.Lite Go.Proofs
structure Years (x:yc):Prop where
 p:∀ i j:Nat,i≤j→j<x.people.length→(x.people.getD i default).born≤(x.people.getD j default).born
 u:∀ i j:Nat,i≤j→j<x.unions.length→(x.unions.getD i default).from0≤(x.unions.getD j default).from0
structure KnI (x:yc) (y:Int) (i:Nat) (v:(List Int)×(List ya)):Prop where
 len:v.1.length=i
 le:v.2.length≤i
 g:∀ j:Nat,j<v.2.length→v.1.getD j default=((j:Nat):Int)∧v.2.getD j default=clipP y (x.people.getD j default)∧(x.people.getD j default).born≤y
 r:∀ j:Nat,v.2.length≤j→j<i→y<(x.people.getD j default).born
theorem zo7 {x:yc} (hx:za9 x=true) (hy:Years x) (y:Int):Early x (zdg x y) y:=by
 have hpx:=zd2 x hx
 unfold zdg
 rw [hx]
 simp only [Bool.not_true,cond_false]
 refine zbx (fun i (v:(List Int)×(List ya))=>KnI x y i v) (fun k=>Early x k y) ⟨rfl,Nat.le_refl _,fun j hj=>absurd hj (Nat.not_lt_zero _),fun j h1 h2=>absurd h2 (Nat.not_lt_zero _)⟩ (fun i v next hi hv hn=>?_) (fun v hv=>?_)
 ·have hg0:∀ (j:Nat) (d:Int),j<i→(v.1++[d]).getD j default=v.1.getD j default:=fun j d hj=>by rw [zcy,if_pos (by rw [hv.len];exact hj)]
  cases c:decide (y<(x.people.getD i default).born)
  ·simp only [cond_false]
   have hb:(x.people.getD i default).born≤y:=by have:=of_decide_eq_false c;omega
   have hfull:v.2.length=i:=by
    rcases Nat.lt_or_ge v.2.length i with g | g
    ·have h1:=hv.r v.2.length (Nat.le_refl _) g
     have h2:=hy.p v.2.length i om hi
     omega
    ·have:=hv.le;omega
   have hpi:=hpx i hi
   have hto:∀ q:Int,0≤q→q<i→(v.1++[((v.2.length:Nat):Int)]).getD q.toNat default=q:=fun q h0 h1=>by
    rw [hg0 _ _ om,(hv.g q.toNat om).1];omega
   have key:∀ d:Int,d=(clipP y (x.people.getD i default)).died→KnI x y (i+1) (v.1++[((v.2.length:Nat):Int)],v.2++[ya.mk (x.people.getD i default).name (x.people.getD i default).sex (x.people.getD i default).father (x.people.getD i default).mother (x.people.getD i default).born d]):=by
    intro d hd
    refine ⟨by simp [hv.len],by simp [hfull],fun j hj=>?_,fun j h1 h2=>?_⟩
    ·simp only [List.length_append,List.length_singleton] at hj
     rw [zcy,zcy]
     by_cases g:j<v.2.length
     ·rw [if_pos (by rw [hv.len];omega),if_pos g];exact hv.g j g
     ·have:j=i:=by omega
      subst this
      rw [if_neg (by rw [hv.len];omega),if_pos hv.len.symm,if_neg g,if_pos hfull.symm,hfull,hd]
      exact ⟨rfl,rfl,hb⟩
    ·simp only [List.length_append,List.length_singleton] at h1;omega
   have hcl:(clipP y (x.people.getD i default)).died=bif decide (y<(x.people.getD i default).died) then -1 else (x.people.getD i default).died:=rfl
   have hfa:(bif (decide (0≤((x.people.getD i default).father))) then ((v.1++[((v.2.length:Nat):Int)]).getD (((x.people.getD i default).father).toNat) default) else ((x.people.getD i default).father))=(x.people.getD i default).father:=by
    cases c1:decide (0≤(x.people.getD i default).father)
    ·rfl
    ·rw [cond_true,hto _ (of_decide_eq_true c1) om]
   have hmo:(bif (decide (0≤((x.people.getD i default).mother))) then ((v.1++[((v.2.length:Nat):Int)]).getD (((x.people.getD i default).mother).toNat) default) else ((x.people.getD i default).mother))=(x.people.getD i default).mother:=by
    cases c1:decide (0≤(x.people.getD i default).mother)
    ·rfl
    ·rw [cond_true,hto _ (of_decide_eq_true c1) om]
   simp only [zr0,hfa,hmo]
   cases c2:decide (y<(x.people.getD i default).died)<;>simp only [cond_true,cond_false]
   ·exact hn _ (key _ (by rw [hcl,c2];rfl))
   ·exact hn _ (key _ (by rw [hcl,c2];rfl))
  ·simp only [cond_true]
   refine hn _ ⟨by simp [hv.len],by have:=hv.le;dsimp only;omega,fun j hj=>?_,fun j h1 h2=>?_⟩
   ·dsimp only at hj ⊢
    rw [hg0 j _ (by have:=hv.le;omega)];exact hv.g j hj
   ·rcases Nat.lt_or_ge j i with g | g
    ·exact hv.r j h1 g
    ·have:j=i:=by omega
     subst this;exact of_decide_eq_true c
 ·have hman:∀ q:Int,0≤q→q<x.people.length→(x.people.getD q.toNat default).born≤y→v.1.getD q.toNat default=q:=by
   intro q h0 h1 hb
   rcases Nat.lt_or_ge q.toNat v.2.length with g | g
   ·rw [(hv.g _ g).1];omega
   ·have:=hv.r _ g om;omega
  refine zbx (fun i (w : List yb) => w.length ≤ i ∧ (∀ j : Nat, j < w.length → w.getD j default = clipU y (x.unions.getD j default) ∧ (x.unions.getD j default).from0 ≤ y) ∧ ∀ j : Nat, w.length ≤ j → j < i → y < (x.unions.getD j default).from0) (fun k => Early x k y)
    ⟨Nat.le_refl _,fun j hj=>absurd hj (Nat.not_lt_zero _),fun j h1 h2=>absurd h2 (Nat.not_lt_zero _)⟩ (fun i w next hi hw hn=>?_) (fun w hw=>⟨hv.le,fun j hj=>(hv.g j hj).2,hv.r,hw.1,hw.2.1,hw.2.2⟩)
  obtain ⟨w1,w2,w3⟩:=hw
  cases c:decide (y<(x.unions.getD i default).from0)
  ·simp only [cond_false]
   have hb:(x.unions.getD i default).from0≤y:=by have:=of_decide_eq_false c;omega
   have hfull:w.length=i:=by
    rcases Nat.lt_or_ge w.length i with g | g
    ·have h1:=w3 w.length (Nat.le_refl _) g
     have h2:=hy.u w.length i om hi
     omega
    ·omega
   have u:=fam_u hx hi
   have h1:=u.man;have h2:=u.woman;have h3:=u.from0
   rw [hman _ h1.1 h1.2 om,hman _ h2.1 h2.2 om]
   have key : ∀ d : Int, d = (clipU y (x.unions.getD i default)).to → (w ++ [yb.mk (x.unions.getD i default).man (x.unions.getD i default).woman (x.unions.getD i default).from0 d]).length ≤ i + 1 ∧
       (∀ j:Nat,j<(w++[yb.mk (x.unions.getD i default).man (x.unions.getD i default).woman (x.unions.getD i default).from0 d]).length→(w++[yb.mk (x.unions.getD i default).man (x.unions.getD i default).woman (x.unions.getD i default).from0 d]).getD j default=clipU y (x.unions.getD j default)∧(x.unions.getD j default).from0≤y) ∧
       ∀ j:Nat,(w++[yb.mk (x.unions.getD i default).man (x.unions.getD i default).woman (x.unions.getD i default).from0 d]).length≤j→j<i+1→y<(x.unions.getD j default).from0:=by
    intro d hd
    refine ⟨by simp [hfull],fun j hj=>?_,fun j h1 h2=>?_⟩
    ·simp only [List.length_append,List.length_singleton] at hj
     rw [zcy]
     by_cases g:j<w.length
     ·rw [if_pos g];exact w2 j g
     ·have:j=i:=by omega
      subst this
      rw [if_neg g,if_pos hfull.symm,hd]
      exact ⟨rfl,hb⟩
    ·simp only [List.length_append,List.length_singleton] at h1;omega
   have hcl:(clipU y (x.unions.getD i default)).to=bif decide (y<(x.unions.getD i default).to) then -1 else (x.unions.getD i default).to:=rfl
   simp only [zr0]
   exact hn _ (key _ hcl.symm)
  ·simp only [cond_true]
   refine hn _ ⟨om,w2,fun j h1 h2=>?_⟩
   rcases Nat.lt_or_ge j i with g | g
   ·exact w3 j h1 g
   ·have:j=i:=by omega
    subst this;exact of_decide_eq_true c
theorem zt2 {y z:Int} (h:y≤z) (p:ya):clipP y (clipP z p)=clipP y p:=by
 unfold clipP
 dsimp only
 by_cases c:z<p.died
 ·rw [decide_eq_true c,decide_eq_true (show y<p.died by omega)]
  simp only [cond_true,ya.mk.injEq,true_and]
  cases decide (y < -1)<;>rfl
 ·rw [decide_eq_false c];rfl
theorem zt1 {y z:Int} (h:y≤z) (u:yb):clipU y (clipU z u)=clipU y u:=by
 unfold clipU
 dsimp only
 by_cases c:z<u.to
 ·rw [decide_eq_true c,decide_eq_true (show y<u.to by omega)]
  simp only [cond_true,yb.mk.injEq,true_and]
  cases decide (y < -1)<;>rfl
 ·rw [decide_eq_false c];rfl
theorem z0m {x k k1 k2:yc} {y z:Int} (hyz:y≤z) (h:Early x k z) (h1:Early k k1 y) (h2:Early x k2 y):k1=k2:=by
 have a1:=h.pl;have a2:=h1.pl;have a3:=h2.pl
 have b1:=h.ul;have b2:=h1.ul;have b3:=h2.ul
 have lp:k1.people.length=k2.people.length:=by
  rcases Nat.lt_trichotomy k1.people.length k2.people.length with g | g | g
  ·have e:=(h2.pg _ g).2
   rcases Nat.lt_or_ge k1.people.length k.people.length with g2 | g2
   ·have:=h1.pr _ (Nat.le_refl _) g2
    rw [(h.pg _ g2).1] at this
    have e2:(clipP z (x.people.getD k1.people.length default)).born=(x.people.getD k1.people.length default).born:=rfl
    omega
   ·have:=h.pr _ g2 om;omega
  ·exact g
  ·have e:=(h1.pg _ g).2
   rw [(h.pg _ om).1] at e
   have:=h2.pr _ (Nat.le_refl _) om
   have e2:(clipP z (x.people.getD k2.people.length default)).born=(x.people.getD k2.people.length default).born:=rfl
   omega
 have lu:k1.unions.length=k2.unions.length:=by
  rcases Nat.lt_trichotomy k1.unions.length k2.unions.length with g | g | g
  ·have e:=(h2.ug _ g).2
   rcases Nat.lt_or_ge k1.unions.length k.unions.length with g2 | g2
   ·have:=h1.ur _ (Nat.le_refl _) g2
    rw [(h.ug _ g2).1] at this
    have e2:(clipU z (x.unions.getD k1.unions.length default)).from0=(x.unions.getD k1.unions.length default).from0:=rfl
    omega
   ·have:=h.ur _ g2 om;omega
  ·exact g
  ·have e:=(h1.ug _ g).2
   rw [(h.ug _ om).1] at e
   have:=h2.ur _ (Nat.le_refl _) om
   have e2:(clipU z (x.unions.getD k2.unions.length default)).from0=(x.unions.getD k2.unions.length default).from0:=rfl
   omega
 obtain ⟨hq1,U1⟩:=k1
 obtain ⟨hq2,U2⟩:=k2
 dsimp only at lp lu a2 b2 a3 b3
 have eP:hq1=hq2:=ext_g lp fun i hi=>by
  have e1:=(h1.pg i hi).1
  have e2:=(h2.pg i zaq).1
  dsimp only at e1 e2
  rw [e1,e2,(h.pg i om).1,zt2 hyz]
 have eU:U1=U2:=ext_g lu fun i hi=>by
  have e1:=(h1.ug i hi).1
  have e2:=(h2.ug i zaq).1
  dsimp only at e1 e2
  rw [e1,e2,(h.ug i om).1,zt1 hyz]
 rw [eP,eU]
theorem zya {x k:yc} {y:Int} (h:Early x k y):Early k k y:=by
 refine ⟨Nat.le_refl _,fun i hi=>?_,fun i h1 h2=>by omega,Nat.le_refl _,fun i hi=>?_,fun i h1 h2=>by omega⟩
 ·rw [(h.pg i hi).1,zt2 (Int.le_refl _)];exact ⟨rfl,(h.pg i hi).2⟩
 ·rw [(h.ug i hi).1,zt1 (Int.le_refl _)];exact ⟨rfl,(h.ug i hi).2⟩
theorem zrx {α β γ:Type} [Inhabited α] (f:α→β) (l:List α) (k:List β→γ):loopN (fun i (v:List β) next=>next (v++[f (l.getD i default)])) k l.length 0 []=k (l.map f):=by
 refine zbx (fun i (v:List β)=>v=(l.take i).map f) (fun r=>r=k (l.map f)) rfl (fun i v next hi hv hn=>hn _ ?_) (fun v hv=>by rw [hv,List.take_length])
 rw [ze1 l default hi,List.map_append,← hv];rfl
def zb9 (x:yc):List Int:=zb7 (x.people.map fun p=>p.born)
def zhv (R:yc):List Int:=zb7 (R.unions.map fun u=>u.from0)
theorem zdr (x:yc):PermOk x (zb9 x):=zzg (by have h:=(zhe (x.people.map fun p=>p.born)).perm;rw [List.length_map] at h;exact h)
theorem zgc {α:Type} [Inhabited α] (f:α→Int) (l:List α):(zb7 (l.map f)).Perm (upto l.length):=by
 have h:=(zhe (l.map f)).perm
 rw [List.length_map] at h
 exact h
theorem zhu {α:Type} [Inhabited α] (f:α→Int) (l:List α) {i j:Nat} (hij:i≤j) (hj:j<(zb7 (l.map f)).length):f (l.getD ((zb7 (l.map f)).getD i default).toNat default)≤f (l.getD ((zb7 (l.map f)).getD j default).toNat default):=by
 have h:=zs1 (l.map f) hij hj
 have hr:∀ k:Nat,k<(zb7 (l.map f)).length→0≤(zb7 (l.map f)).getD k default∧(zb7 (l.map f)).getD k default<l.length:=fun k hk=>mem_upto.1 ((zgc f l).mem_iff.1 (zd0 hk))
 have r1:=hr i om
 have r2:=hr j hj
 rw [zdw f om,zdw f om] at h
 exact h
theorem zgx (x:yc) {i j:Nat} (hij:i≤j) (hj:j<(zb9 x).length):(x.people.getD ((zb9 x).getD i default).toNat default).born≤(x.people.getD ((zb9 x).getD j default).toNat default).born:=zhu (fun p:ya=>p.born) x.people hij hj
theorem zsb (x:yc) {i j:Nat} (hij:i≤j) (hj:j<(zhv x).length):(x.unions.getD ((zhv x).getD i default).toNat default).from0≤(x.unions.getD ((zhv x).getD j default).toNat default).from0:=zhu (fun p:yb=>p.from0) x.unions hij hj
theorem zlv {x:yc} (hx:za9 x=true):zdv x=⟨(zbo x (zb9 x)).people,(zhv (zbo x (zb9 x))).map fun k=>(zbo x (zb9 x)).unions.getD k.toNat default⟩:=by
 have hv:zeu x (zb9 x)=(zbo x (zb9 x),true):=by
  rw [zum hx (zdr x),zvx hx (zdr x) (fun i j h1 h2=>zgx x h1 h2)];rfl
 unfold zdv
 rw [zrx (fun p:ya=>p.born),show zb7 (x.people.map fun p=>p.born)=zb9 x from rfl,hv]
 dsimp only
 rw [zrx (fun u:yb=>u.from0),zrx (fun k:Int=>((zbo x (zb9 x)).unions).getD k.toNat default)]
 rfl
theorem zn2 {x:yc} (hx:za9 x=true):za9 (zdv x)=true∧Years (zdv x)∧(zdv x).people.length=x.people.length∧(zdv x).unions.length=x.unions.length:=by
 rw [zlv hx]
 have hp:=zdr x
 have hR:=zvx hx hp (fun i j h1 h2=>zgx x h1 h2)
 have ho:(zhv (zbo x (zb9 x))).Perm (upto (zbo x (zb9 x)).unions.length):=by
  have h:=(zhe ((zbo x (zb9 x)).unions.map fun u=>u.from0)).perm
  rw [List.length_map] at h
  exact h
 have hpl:(zbo x (zb9 x)).people.length=x.people.length:=by simp [zbo,hp.len]
 have hul:(zbo x (zb9 x)).unions.length=x.unions.length:=by simp [zbo]
 have hol:(zhv (zbo x (zb9 x))).length=(zbo x (zb9 x)).unions.length:=by rw [ho.length_eq,zee]
 refine ⟨zu7 (P:=(zbo x (zb9 x)).people) (U:=(zbo x (zb9 x)).unions) hR ho,⟨fun i j hij hj=>?_,fun i j hij hj=>?_⟩,hpl,by dsimp only;rw [List.length_map,hol,hul]⟩
 ·dsimp only at hj ⊢
  have hget:∀ j:Nat,j<x.people.length→((zbo x (zb9 x)).people.getD j default).born=(x.people.getD ((zb9 x).getD j default).toNat default).born:=fun j hj=>by
   have:=zdw (fun i:Int=>zcz (zby (zb9 x) ((x.people.length:Nat):Int)).1 (x.people.getD i.toNat default)) (l:=zb9 x) (k:=j) (by rw [hp.len];exact hj)
   show (((zb9 x).map fun i=>zcz (zby (zb9 x) ((x.people.length:Nat):Int)).1 (x.people.getD i.toNat default)).getD j default).born=_
   rw [this];rfl
  rw [hget i om,hget j om]
  exact zgx x hij (by rw [hp.len];omega)
 ·dsimp only at hj ⊢
  rw [List.length_map] at hj
  have hr:∀ k:Nat,k<(zhv (zbo x (zb9 x))).length→0≤(zhv (zbo x (zb9 x))).getD k default∧(zhv (zbo x (zb9 x))).getD k default<(zbo x (zb9 x)).unions.length:=fun k hk=>mem_upto.1 (ho.mem_iff.1 (zd0 hk))
  rw [zdw (fun k:Int=>(zbo x (zb9 x)).unions.getD k.toNat default) om,zdw (fun k:Int=>(zbo x (zb9 x)).unions.getD k.toNat default) hj]
  exact zsb (zbo x (zb9 x)) hij hj
theorem zpt (x:yc):zdh x x=true:=by
 unfold zdh
 rw [decide_eq_true rfl,decide_eq_true rfl]
 simp only [Bool.not_true,Bool.or_false,cond_false]
 rw [zeo]
 refine ⟨fun j _=>?_,?_⟩
 ·simp
 ·rw [zeo]
  exact ⟨fun j _=>by simp,rfl⟩
theorem zx3 {s:List UInt8} (h:zcp s=true):s.length≤12:=by
 unfold zcp at h
 rw [zeo] at h
 have h2:=h.2
 unfold l1In at h2
 simp only [Bool.and_eq_true,decide_eq_true_eq] at h2
 omega
theorem zfp {x:yc} (hx:za9 x=true):∀ p∈x.people,p.name.length≤1048576:=by
 intro p hp
 obtain ⟨k,hk,e⟩:=zf2 (d:=default) hp
 have:=zx3 (fam_p hx hk).name
 rw [e] at this
 omega
theorem zyu {α:Type} [Inhabited α] {l:List α} {i j:Int} (hi:0≤i∧i<l.length) (hj:0≤j∧j<l.length) {x:α} (hx:x∈swp l i j):x∈l:=by
 unfold swp at hx
 rcases List.mem_or_eq_of_mem_set hx with hx | hx
 ·rcases List.mem_or_eq_of_mem_set hx with hx | hx
  ·exact hx
  ·rw [hx];unfold gi;exact zd0 om
 ·rw [hx];unfold gi;exact zd0 om
theorem jnQ {S α:Type} {f:(S→α)→α} {k:S→α} (J:S→Prop) (Q:α→Prop) (h1:∀ K:S→α,(∀ s,J s→Q (K s))→Q (f K)) (h2:∀ s,J s→Q (k s)):Q (jn f k):=h1 k h2
def gIns {α:Type} [Inhabited α] (R:α→α→Bool) (l:List α) (x1 x2:Int):List α:=loopW (fun (v1:Int×(List α)) nx1=>bif (decide (v1.1<x2)) then (loopW (fun (v2:Int×(List α)) next=>bif ((decide (x1<v2.1))&&(R (gi v2.2 v2.1) (gi v2.2 (v2.1 - 1)))) then (next (v2.1 - 1,(swp v2.2 v2.1 (v2.1 - 1)))) else (nx1 (v1.1+1,v2.2))) ((v1.1).toNat+1) (v1.1,v1.2)) else v1.2) ((x2 - (x1+1)).toNat+1) (x1+1,l)
def gSwp {α:Type} [Inhabited α] (l:List α) (x1 x2 x3:Int):List α:=loopN (fun i1 (v1:(List α)) next=>next (swp v1 (x1+((i1:Nat):Int)) (x2+((i1:Nat):Int)))) (fun (v1:(List α))=>v1) x3.toNat 0 l
def gRot {α:Type} [Inhabited α] (l:List α) (x1 x2 x3:Int):List α:=loopW (fun (v1:Int×Int×(List α)) next=>bif (!decide (v1.1=v1.2.1)) then (bif (decide (v1.2.1<v1.1)) then (next (v1.1 - v1.2.1,v1.2.1,gSwp v1.2.2 (x2 - v1.1) x2 v1.2.1)) else (next (v1.1,v1.2.1 - v1.1,gSwp v1.2.2 (x2 - v1.1) ((x2+v1.2.1) - v1.1) v1.1))) else (gSwp v1.2.2 (x2 - v1.1) x2 v1.1)) ((x2 - x1+(x3 - x2)).toNat+1) (x2 - x1,x3 - x2,l)
def gSym {α : Type} [Inhabited α] (R : α → α → Bool) : Nat → List α → Int → Int → Int → (List α)
  | 0,_,_,_,_=>default
  | m+1,l,x1,x2,x3=>bif (decide ((x2 - x1)=1)) then (jn (fun K1=>loopW (fun (v1:Int×Int) next=>bif (decide (v1.1<v1.2)) then (bif (R (gi l ((v1.1+v1.2) / 2 ^ 1)) (gi l x1)) then (next (((v1.1+v1.2) / 2 ^ 1)+1,v1.2)) else (next (v1.1,(v1.1+v1.2) / 2 ^ 1))) else (K1 v1.1)) ((x3 - (x2)).toNat+1) (x2,x3)) (fun (j1:Int)=>loopW (fun (v2:Int×(List α)) next=>bif (decide (v2.1<(j1 - 1))) then (next (v2.1+1,(swp v2.2 v2.1 (v2.1+1)))) else v2.2) ((j1 - (x1)).toNat+1) (x1,l))) else (bif (decide ((x3 - x2)=1)) then (jn (fun K2=>loopW (fun (v3:Int×Int) next=>bif (decide (v3.1<v3.2)) then (bif (!(R (gi l x2) (gi l ((v3.1+v3.2) / 2 ^ 1)))) then (next (((v3.1+v3.2) / 2 ^ 1)+1,v3.2)) else (next (v3.1,(v3.1+v3.2) / 2 ^ 1))) else (K2 v3.1)) ((x2 - (x1)).toNat+1) (x1,x2)) (fun (j2:Int)=>loopW (fun (v4:Int×(List α)) next=>bif (decide (j2<v4.1)) then (next (v4.1 - 1,(swp v4.2 v4.1 (v4.1 - 1)))) else v4.2) ((x2 - (j2)).toNat+1) (x2,l))) else (jn (fun K3=>bif (decide (((x1+x3) / 2 ^ 1)<x2)) then (K3 ((((x1+x3) / 2 ^ 1)+x2) - x3,(x1+x3) / 2 ^ 1)) else (K3 (x1,x2))) (fun (j3:Int×Int)=>jn (fun K4=>loopW (fun (v5:Int×Int) next=>bif (decide (v5.1<v5.2)) then (bif (!(R (gi l (((((x1+x3) / 2 ^ 1)+x2) - 1) - ((v5.1+v5.2) / 2 ^ 1))) (gi l ((v5.1+v5.2) / 2 ^ 1)))) then (next (((v5.1+v5.2) / 2 ^ 1)+1,v5.2)) else (next (v5.1,(v5.1+v5.2) / 2 ^ 1))) else (K4 v5.1)) ((j3.2 - (j3.1)).toNat+1) (j3.1,j3.2)) (fun (j4:Int)=>jn (fun K5=>bif ((decide (j4<x2))&&(decide (x2<((((x1+x3) / 2 ^ 1)+x2) - j4)))) then (K5 (gRot l j4 x2 ((((x1+x3) / 2 ^ 1)+x2) - j4))) else (K5 l)) (fun (j5:(List α))=>jn (fun K6=>bif ((decide (x1<j4))&&(decide (j4<((x1+x3) / 2 ^ 1)))) then (K6 (gSym R m j5 x1 j4 ((x1+x3) / 2 ^ 1))) else (K6 j5)) (fun (j6:(List α))=>bif ((decide (((x1+x3) / 2 ^ 1)<((((x1+x3) / 2 ^ 1)+x2) - j4)))&&(decide (((((x1+x3) / 2 ^ 1)+x2) - j4)<x3))) then (gSym R m j6 ((x1+x3) / 2 ^ 1) ((((x1+x3) / 2 ^ 1)+x2) - j4) x3) else j6))))))
def gStb {α:Type} [Inhabited α] (R:α→α→Bool) (l:List α) (x1:Int):(List α):=loopW (fun (v1:Int×Int×(List α)) next=>bif (decide (v1.2.1≤x1)) then (jn (fun K1=>K1 (gIns R v1.2.2 v1.1 v1.2.1)) (fun (j1:(List α))=>next (v1.2.1,v1.2.1+20,j1))) else (jn (fun K2=>K2 (gIns R v1.2.2 v1.1 x1)) (fun (j2:(List α))=>loopW (fun (v2:Int×(List α)) nx2=>bif (decide (v2.1<x1)) then (loopW (fun (v3:Int×Int×(List α)) next=>bif (decide (v3.2.1≤x1)) then (jn (fun K3=>K3 (gSym R 256 v3.2.2 v3.1 (v3.1+v2.1) v3.2.1)) (fun (j3:(List α))=>next (v3.2.1,v3.2.1+(2 * v2.1),j3))) else (bif (decide ((v3.1+v2.1)<x1)) then (nx2 (v2.1 * 2,gSym R 256 v3.2.2 v3.1 (v3.1+v2.1) x1)) else (nx2 (v2.1 * 2,v3.2.2)))) ((x1+1000 - (2 * v2.1)).toNat+1) (0,2 * v2.1,v2.2)) else v2.2) ((x1+20 - (20)).toNat+1) (20,j2)))) ((x1+20 - (20)).toNat+1) (0,20,l)
def Pm {α:Type} (l l':List α):Prop:=l'.length=l.length∧∀ y∈l',y∈l
theorem Pm.refl {α:Type} (l:List α):Pm l l:=⟨rfl,fun _ h=>h⟩
theorem Pm.trans {α:Type} {l m n:List α} (h:Pm l m) (h2:Pm m n):Pm l n:=⟨h2.1.trans h.1,fun y hy=>h.2 y (h2.2 y hy)⟩
theorem Pm.swp {α:Type} [Inhabited α] {l m:List α} (h:Pm l m) {i j:Int} (hi:0≤i∧i<l.length) (hj:0≤j∧j<l.length):Pm l (swp m i j) :=
 ⟨by rw [zba];exact h.1,fun y hy=>h.2 y (zyu (by rw [h.1];exact hi) (by rw [h.1];exact hj) hy)⟩
theorem zu5 {α:Type} [Inhabited α] (R:α→α→Bool) {l:List α} {a b:Int} (h:0≤a∧a≤b∧b≤l.length):Pm l (gIns R l a b):=by
 unfold gIns
 refine zcu (fun v=>a+1≤v.1∧Pm l v.2) (fun v=>(b - v.1).toNat) (fun r=>Pm l r) (fun v next hv hn=>?_) _ _ zaq ⟨by simp,.refl _⟩
 refine zbe (p:=fun r=>Pm l r) (fun hc=>?_) (fun _=>hv.2)
 have hc:=of_decide_eq_true hc
 refine zcu (fun w=>(a≤w.1∧w.1≤v.1)∧Pm l w.2) (fun w=>w.1.toNat) (fun r=>Pm l r) (fun w next2 hw hn2=>?_) _ _ zaq ⟨by dsimp only;omega,hv.2⟩
 refine zbe (p:=fun r=>Pm l r) (fun hd=>?_) (fun _=>hn _ ⟨by dsimp only;omega,hw.2⟩ zaq)
 simp only [Bool.and_eq_true,decide_eq_true_eq] at hd
 exact hn2 _ ⟨by dsimp only;omega,hw.2.swp ⟨om,om⟩ ⟨om,om⟩⟩ zaq
theorem zme {α:Type} [Inhabited α] {l:List α} {a b n:Int} (h:(0≤a∧0≤b∧0≤n)∧a+n≤l.length∧b+n≤l.length):Pm l (gSwp l a b n):=by
 unfold gSwp
 exact zbx (fun _ r=>Pm l r) (fun r=>Pm l r) (.refl _) (fun i v next hi hv hn=>hn _ (hv.swp ⟨om,om⟩ ⟨om,om⟩)) (fun v hv=>hv)
theorem zr3 {α:Type} [Inhabited α] {l:List α} {a m b:Int} (h:0≤a∧a<m∧m<b∧b≤l.length):Pm l (gRot l a m b):=by
 unfold gRot
 refine zcu (fun v=>(1≤v.1∧1≤v.2.1∧v.1≤m - a∧v.2.1≤b - m)∧Pm l v.2.2) (fun v=>(v.1+v.2.1).toNat) (fun r=>Pm l r) (fun v next hv hn=>?_) _ _ zaq ⟨by dsimp only;omega,.refl _⟩
 have hl:=hv.2.1
 refine zbe (p:=fun r=>Pm l r) (fun hc=>?_) (fun hc=>hv.2.trans (zme (by simp only [Bool.not_eq_false',decide_eq_true_eq] at hc;omega)))
 simp only [Bool.not_eq_true',decide_eq_false_iff_not] at hc
 refine zbe (p:=fun r=>Pm l r) (fun hd=>?_) (fun hd=>?_)
 ·have hd:=of_decide_eq_true hd
  exact hn _ ⟨by dsimp only;omega,hv.2.trans (zme om)⟩ zaq
 ·have hd:=of_decide_eq_false hd
  exact hn _ ⟨by dsimp only;omega,hv.2.trans (zme om)⟩ zaq
theorem zpf {α : Type} [Inhabited α] (R : α → α → Bool) : ∀ (m : Nat) {l : List α} {a d b : Int}, (b - a).toNat < m → 0 ≤ a ∧ a < d ∧ d < b ∧ b ≤ l.length → Pm l (gSym R m l a d b)
  | 0,l,a,d,b,hm,_=>absurd hm (Nat.not_lt_zero _)
  | m+1,l,a,d,b,hm,h=>by
    rw [gSym]
    refine zbe (p:=fun r=>Pm l r) (fun c1=>?_) (fun c1=>zbe (p:=fun r=>Pm l r) (fun c2=>?_) (fun c2=>?_))
    · refine jnQ (fun (j:Int)=>j≤b) (fun r=>Pm l r) (fun K hK=>?_) (fun j hj=>?_)
      · refine zcu (fun v=>v.1≤v.2∧v.2≤b) (fun v=>(v.2 - v.1).toNat) (fun r=>Pm l r) (fun v next hv hn=>?_) _ _ zaq zaq
        refine zbe (p:=fun r=>Pm l r) (fun hc=>?_) (fun _=>hK _ om)
        have hc:=of_decide_eq_true hc
        exact zbe (p:=fun r=>Pm l r) (fun _=>hn _ zaq zaq) (fun _=>hn _ zaq zaq)
      · refine zcu (fun v=>a≤v.1∧Pm l v.2) (fun v=>(j - v.1).toNat) (fun r=>Pm l r) (fun v next hv hn=>?_) _ _ zaq ⟨by dsimp only;omega,.refl _⟩
        refine zbe (p:=fun r=>Pm l r) (fun hc=>?_) (fun _=>hv.2)
        have hc:=of_decide_eq_true hc
        exact hn _ ⟨by dsimp only;omega,hv.2.swp ⟨om,om⟩ ⟨om,om⟩⟩ zaq
    · refine jnQ (fun (j:Int)=>a≤j) (fun r=>Pm l r) (fun K hK=>?_) (fun j hj=>?_)
      · refine zcu (fun v=>a≤v.1∧v.1≤v.2) (fun v=>(v.2 - v.1).toNat) (fun r=>Pm l r) (fun v next hv hn=>?_) _ _ zaq zaq
        refine zbe (p:=fun r=>Pm l r) (fun hc=>?_) (fun _=>hK _ om)
        have hc:=of_decide_eq_true hc
        exact zbe (p:=fun r=>Pm l r) (fun _=>hn _ zaq zaq) (fun _=>hn _ zaq zaq)
      · refine zcu (fun v=>v.1≤d∧Pm l v.2) (fun v=>(v.1 - j).toNat) (fun r=>Pm l r) (fun v next hv hn=>?_) _ _ zaq ⟨by dsimp only;omega,.refl _⟩
        refine zbe (p:=fun r=>Pm l r) (fun hc=>?_) (fun _=>hv.2)
        have hc:=of_decide_eq_true hc
        exact hn _ ⟨by dsimp only;omega,hv.2.swp ⟨om,om⟩ ⟨om,om⟩⟩ zaq
    · have c1:=of_decide_eq_false c1
      have c2:=of_decide_eq_false c2
      refine jnQ (fun (j:Int×Int)=>(a≤j.1∧j.1≤j.2∧j.2≤d)∧j.2≤(a+b) / 2 ^ 1∧(a+b) / 2 ^ 1+d - j.1≤b) (fun r=>Pm l r) (fun K hK=>?_) (fun j hj=>?_)
      · refine zbe (p:=fun r=>Pm l r) (fun hc=>hK _ ?_) (fun hc=>hK _ ?_)
        · have hc:=of_decide_eq_true hc;dsimp only;omega
        · have hc:=of_decide_eq_false hc;dsimp only;omega
      · refine jnQ (fun (s:Int)=>j.1≤s∧s≤j.2) (fun r=>Pm l r) (fun K hK=>?_) (fun s hs=>?_)
        · refine zcu (fun v=>j.1≤v.1∧v.1≤v.2∧v.2≤j.2) (fun v=>(v.2 - v.1).toNat) (fun r=>Pm l r) (fun v next hv hn=>?_) _ _ zaq zaq
          refine zbe (p:=fun r=>Pm l r) (fun hc=>?_) (fun _=>hK _ om)
          have hc:=of_decide_eq_true hc
          exact zbe (p:=fun r=>Pm l r) (fun _=>hn _ zaq zaq) (fun _=>hn _ zaq zaq)
        · refine jnQ (fun (x:List α)=>Pm l x) (fun r=>Pm l r) (fun K hK=>?_) (fun x hx=>?_)
          · refine zbe (p:=fun r=>Pm l r) (fun hc=>hK _ ?_) (fun hc=>hK _ (.refl _))
            simp only [Bool.and_eq_true,decide_eq_true_eq] at hc
            exact zr3 om
          · have hxl:=hx.1
            refine jnQ (fun (x:List α)=>Pm l x) (fun r=>Pm l r) (fun K hK=>?_) (fun z hz=>?_)
            · refine zbe (p:=fun r=>Pm l r) (fun hc=>hK _ ?_) (fun hc=>hK _ hx)
              simp only [Bool.and_eq_true,decide_eq_true_eq] at hc
              exact hx.trans (zpf R m om om)
            · have hzl:=hz.1
              refine zbe (p:=fun r=>Pm l r) (fun hc=>?_) (fun hc=>hz)
              simp only [Bool.and_eq_true,decide_eq_true_eq] at hc
              exact hz.trans (zpf R m om om)
end Go.Proofs.YtlinnkjieghmhaaGreatDoor
