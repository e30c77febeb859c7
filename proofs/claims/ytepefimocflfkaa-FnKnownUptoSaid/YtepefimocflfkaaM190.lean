import Derived.Test.YtepefimocflfkaaVS63
set_option maxHeartbeats 4000000
set_option linter.unusedSimpArgs false
set_option linter.unusedVariables false
namespace Go.Proofs.Ytepefimocflfkaa
open Go Go.Lite Go.Proofs
structure Years (x:Family):Prop where
 p:∀ i j:Nat,i≤j→j<x.people.length→(x.people.getD i default).born≤(x.people.getD j default).born
 u:∀ i j:Nat,i≤j→j<x.unions.length→(x.unions.getD i default).from0≤(x.unions.getD j default).from0
structure KnI (x:Family) (y:Int) (i:Nat) (v:(List Int)×(List Person)):Prop where
 len:v.1.length=i
 le:v.2.length≤i
 g:∀ j:Nat,j<v.2.length→v.1.getD j default=((j:Nat):Int)∧v.2.getD j default=clipP y (x.people.getD j default)∧(x.people.getD j default).born≤y
 r:∀ j:Nat,v.2.length≤j→j<i→y<(x.people.getD j default).born
theorem known_early {x:Family} (hx:specIsFamily x=true) (hy:Years x) (y:Int):Early x (specKnown x y) y:=by
 have hpx:=isFamily_par x hx
 unfold specKnown
 rw [hx]
 simp only [Bool.not_true,cond_false]
 refine loopN_to (fun i (v:(List Int)×(List Person))=>KnI x y i v) (fun k=>Early x k y) ⟨rfl,Nat.le_refl _,fun j hj=>absurd hj (Nat.not_lt_zero _),fun j h1 h2=>absurd h2 (Nat.not_lt_zero _)⟩ (fun i v next hi hv hn=>?_) (fun v hv=>?_)
 ·have hg0:∀ (j:Nat) (d:Int),j<i→(v.1++[d]).getD j default=v.1.getD j default:=fun j d hj=>by rw [getD_snoc,if_pos (by rw [hv.len];exact hj)]
  cases c:decide (y<(x.people.getD i default).born)
  ·simp only [cond_false]
   have hb:(x.people.getD i default).born≤y:=by have:=of_decide_eq_false c;omega
   have hfull:v.2.length=i:=by
    rcases Nat.lt_or_ge v.2.length i with g | g
    ·have h1:=hv.r v.2.length (Nat.le_refl _) g
     have h2:=hy.p v.2.length i (by omega) hi
     omega
    ·have:=hv.le;omega
   have hpi:=hpx i hi
   have hto:∀ q:Int,0≤q→q<i→(v.1++[((v.2.length:Nat):Int)]).getD q.toNat default=q:=fun q h0 h1=>by
    rw [hg0 _ _ (by omega),(hv.g q.toNat (by omega)).1];omega
   have key:∀ d:Int,d=(clipP y (x.people.getD i default)).died→KnI x y (i+1) (v.1++[((v.2.length:Nat):Int)],v.2++[Person.mk (x.people.getD i default).name (x.people.getD i default).sex (x.people.getD i default).father (x.people.getD i default).mother (x.people.getD i default).born d]):=by
    intro d hd
    refine ⟨by simp [hv.len],by simp [hfull],fun j hj=>?_,fun j h1 h2=>?_⟩
    ·simp only [List.length_append,List.length_singleton] at hj
     rw [getD_snoc,getD_snoc]
     by_cases g:j<v.2.length
     ·rw [if_pos (by rw [hv.len];omega),if_pos g];exact hv.g j g
     ·have:j=i:=by omega
      subst this
      rw [if_neg (by rw [hv.len];omega),if_pos hv.len.symm,if_neg g,if_pos hfull.symm,hfull,hd]
      exact ⟨rfl,rfl,hb⟩
    ·simp only [List.length_append,List.length_singleton] at h1;omega
   have hcl:(clipP y (x.people.getD i default)).died=bif decide (y<(x.people.getD i default).died) then -1 else (x.people.getD i default).died:=rfl
   have hfa:(bif (decide (0≤((x.people.getD i default).father))) then ((v.1++[((v.2.length:Nat):Int)]).getD (((x.people.getD i default).father).toNat) default) else ((x.people.getD i default).father))=(x.people.getD i default).father:=by
    cases c1:decide (0≤(x.people.getD i default).father)
    ·rfl
    ·rw [cond_true,hto _ (of_decide_eq_true c1) (by omega)]
   have hmo:(bif (decide (0≤((x.people.getD i default).mother))) then ((v.1++[((v.2.length:Nat):Int)]).getD (((x.people.getD i default).mother).toNat) default) else ((x.people.getD i default).mother))=(x.people.getD i default).mother:=by
    cases c1:decide (0≤(x.people.getD i default).mother)
    ·rfl
    ·rw [cond_true,hto _ (of_decide_eq_true c1) (by omega)]
   simp only [jn_cond,hfa,hmo]
   cases c2:decide (y<(x.people.getD i default).died)<;>simp only [cond_true,cond_false]
   ·exact hn _ (key _ (by rw [hcl,c2];rfl))
   ·exact hn _ (key _ (by rw [hcl,c2];rfl))
  ·simp only [cond_true]
   refine hn _ ⟨by simp [hv.len],by have:=hv.le;dsimp only;omega,fun j hj=>?_,fun j h1 h2=>?_⟩
   ·dsimp only at hj ⊢
    rw [hg0 j _ (by have:=hv.le;omega)];exact hv.g j hj
   ·rcases Nat.lt_or_ge j i with g | g
    ·exact hv.r j h1 g
    ·have:j=i:=by omega
     subst this;exact of_decide_eq_true c
 ·have hman:∀ q:Int,0≤q→q<x.people.length→(x.people.getD q.toNat default).born≤y→v.1.getD q.toNat default=q:=by
   intro q h0 h1 hb
   rcases Nat.lt_or_ge q.toNat v.2.length with g | g
   ·rw [(hv.g _ g).1];omega
   ·have:=hv.r _ g (by omega);omega
  refine loopN_to (fun i (w : List Union) => w.length ≤ i ∧ (∀ j : Nat, j < w.length → w.getD j default = clipU y (x.unions.getD j default) ∧ (x.unions.getD j default).from0 ≤ y) ∧ ∀ j : Nat, w.length ≤ j → j < i → y < (x.unions.getD j default).from0) (fun k => Early x k y)
    ⟨Nat.le_refl _,fun j hj=>absurd hj (Nat.not_lt_zero _),fun j h1 h2=>absurd h2 (Nat.not_lt_zero _)⟩ (fun i w next hi hw hn=>?_) (fun w hw=>⟨hv.le,fun j hj=>(hv.g j hj).2,hv.r,hw.1,hw.2.1,hw.2.2⟩)
  obtain ⟨w1,w2,w3⟩:=hw
  cases c:decide (y<(x.unions.getD i default).from0)
  ·simp only [cond_false]
   have hb:(x.unions.getD i default).from0≤y:=by have:=of_decide_eq_false c;omega
   have hfull:w.length=i:=by
    rcases Nat.lt_or_ge w.length i with g | g
    ·have h1:=w3 w.length (Nat.le_refl _) g
     have h2:=hy.u w.length i (by omega) hi
     omega
    ·omega
   have u:=fam_u hx hi
   have h1:=u.man;have h2:=u.woman;have h3:=u.from0
   rw [hman _ h1.1 h1.2 (by omega),hman _ h2.1 h2.2 (by omega)]
   have key : ∀ d : Int, d = (clipU y (x.unions.getD i default)).to → (w ++ [Union.mk (x.unions.getD i default).man (x.unions.getD i default).woman (x.unions.getD i default).from0 d]).length ≤ i + 1 ∧
       (∀ j:Nat,j<(w++[Union.mk (x.unions.getD i default).man (x.unions.getD i default).woman (x.unions.getD i default).from0 d]).length→(w++[Union.mk (x.unions.getD i default).man (x.unions.getD i default).woman (x.unions.getD i default).from0 d]).getD j default=clipU y (x.unions.getD j default)∧(x.unions.getD j default).from0≤y) ∧
       ∀ j:Nat,(w++[Union.mk (x.unions.getD i default).man (x.unions.getD i default).woman (x.unions.getD i default).from0 d]).length≤j→j<i+1→y<(x.unions.getD j default).from0:=by
    intro d hd
    refine ⟨by simp [hfull],fun j hj=>?_,fun j h1 h2=>?_⟩
    ·simp only [List.length_append,List.length_singleton] at hj
     rw [getD_snoc]
     by_cases g:j<w.length
     ·rw [if_pos g];exact w2 j g
     ·have:j=i:=by omega
      subst this
      rw [if_neg g,if_pos hfull.symm,hd]
      exact ⟨rfl,hb⟩
    ·simp only [List.length_append,List.length_singleton] at h1;omega
   have hcl:(clipU y (x.unions.getD i default)).to=bif decide (y<(x.unions.getD i default).to) then -1 else (x.unions.getD i default).to:=rfl
   simp only [jn_cond]
   exact hn _ (key _ hcl.symm)
  ·simp only [cond_true]
   refine hn _ ⟨by omega,w2,fun j h1 h2=>?_⟩
   rcases Nat.lt_or_ge j i with g | g
   ·exact w3 j h1 g
   ·have:j=i:=by omega
    subst this;exact of_decide_eq_true c
theorem Early.years {x k:Family} {y:Int} (h:Early x k y) (hy:Years x):Years k:=by
 have hpl:=h.pl
 have hul:=h.ul
 refine ⟨fun i j hij hj=>?_,fun i j hij hj=>?_⟩
 ·rw [(h.pg i (by omega)).1,(h.pg j hj).1];exact hy.p i j hij (by omega)
 ·rw [(h.ug i (by omega)).1,(h.ug j hj).1];exact hy.u i j hij (by omega)
theorem clipP_two {y z:Int} (h:y≤z) (p:Person):clipP y (clipP z p)=clipP y p:=by
 unfold clipP
 dsimp only
 by_cases c:z<p.died
 ·rw [decide_eq_true c,decide_eq_true (show y<p.died by omega)]
  simp only [cond_true,Person.mk.injEq,true_and]
  cases decide (y < -1)<;>rfl
 ·rw [decide_eq_false c];rfl
theorem clipU_two {y z:Int} (h:y≤z) (u:Union):clipU y (clipU z u)=clipU y u:=by
 unfold clipU
 dsimp only
 by_cases c:z<u.to
 ·rw [decide_eq_true c,decide_eq_true (show y<u.to by omega)]
  simp only [cond_true,Union.mk.injEq,true_and]
  cases decide (y < -1)<;>rfl
 ·rw [decide_eq_false c];rfl
theorem early_two {x k k1 k2:Family} {y z:Int} (hyz:y≤z) (h:Early x k z) (h1:Early k k1 y) (h2:Early x k2 y):k1=k2:=by
 have a1:=h.pl;have a2:=h1.pl;have a3:=h2.pl
 have b1:=h.ul;have b2:=h1.ul;have b3:=h2.ul
 have lp:k1.people.length=k2.people.length:=by
  rcases Nat.lt_trichotomy k1.people.length k2.people.length with g | g | g
  ·have e:=(h2.pg _ g).2
   rcases Nat.lt_or_ge k1.people.length k.people.length with g2 | g2
   ·have:=h1.pr _ (Nat.le_refl _) g2
    rw [(h.pg _ g2).1] at this
    have e2:(clipP z (x.people.getD k1.people.length default)).born=(x.people.getD k1.people.length default).born:=rfl
    omega
   ·have:=h.pr _ g2 (by omega);omega
  ·exact g
  ·have e:=(h1.pg _ g).2
   rw [(h.pg _ (by omega)).1] at e
   have:=h2.pr _ (Nat.le_refl _) (by omega)
   have e2:(clipP z (x.people.getD k2.people.length default)).born=(x.people.getD k2.people.length default).born:=rfl
   omega
 have lu:k1.unions.length=k2.unions.length:=by
  rcases Nat.lt_trichotomy k1.unions.length k2.unions.length with g | g | g
  ·have e:=(h2.ug _ g).2
   rcases Nat.lt_or_ge k1.unions.length k.unions.length with g2 | g2
   ·have:=h1.ur _ (Nat.le_refl _) g2
    rw [(h.ug _ g2).1] at this
    have e2:(clipU z (x.unions.getD k1.unions.length default)).from0=(x.unions.getD k1.unions.length default).from0:=rfl
    omega
   ·have:=h.ur _ g2 (by omega);omega
  ·exact g
  ·have e:=(h1.ug _ g).2
   rw [(h.ug _ (by omega)).1] at e
   have:=h2.ur _ (Nat.le_refl _) (by omega)
   have e2:(clipU z (x.unions.getD k2.unions.length default)).from0=(x.unions.getD k2.unions.length default).from0:=rfl
   omega
 obtain ⟨P1,U1⟩:=k1
 obtain ⟨P2,U2⟩:=k2
 dsimp only at lp lu a2 b2 a3 b3
 have eP:P1=P2:=ext_g lp fun i hi=>by
  have e1:=(h1.pg i hi).1
  have e2:=(h2.pg i (by dsimp only;omega)).1
  dsimp only at e1 e2
  rw [e1,e2,(h.pg i (by omega)).1,clipP_two hyz]
 have eU:U1=U2:=ext_g lu fun i hi=>by
  have e1:=(h1.ug i hi).1
  have e2:=(h2.ug i (by dsimp only;omega)).1
  dsimp only at e1 e2
  rw [e1,e2,(h.ug i (by omega)).1,clipU_two hyz]
 rw [eP,eU]
theorem early_self {x k:Family} {y:Int} (h:Early x k y):Early k k y:=by
 refine ⟨Nat.le_refl _,fun i hi=>?_,fun i h1 h2=>by omega,Nat.le_refl _,fun i hi=>?_,fun i h1 h2=>by omega⟩
 ·rw [(h.pg i hi).1,clipP_two (Int.le_refl _)];exact ⟨rfl,(h.pg i hi).2⟩
 ·rw [(h.ug i hi).1,clipU_two (Int.le_refl _)];exact ⟨rfl,(h.ug i hi).2⟩
theorem map_loop {α β γ:Type} [Inhabited α] (f:α→β) (l:List α) (k:List β→γ):loopN (fun i (v:List β) next=>next (v++[f (l.getD i default)])) k l.length 0 []=k (l.map f):=by
 refine loopN_to (fun i (v:List β)=>v=(l.take i).map f) (fun r=>r=k (l.map f)) rfl (fun i v next hi hv hn=>hn _ ?_) (fun v hv=>by rw [hv,List.take_length])
 rw [take_snoc l default hi,List.map_append,← hv];rfl
def byBirth (x:Family):List Int:=l11Order (x.people.map fun p=>p.born)
def byFrom (R:Family):List Int:=l11Order (R.unions.map fun u=>u.from0)
theorem byBirth_ok (x:Family):PermOk x (byBirth x):=permOk (by have h:=(order_ok (x.people.map fun p=>p.born)).perm;rw [List.length_map] at h;exact h)
theorem order_map {α:Type} [Inhabited α] (f:α→Int) (l:List α):(l11Order (l.map f)).Perm (upto l.length):=by
 have h:=(order_ok (l.map f)).perm
 rw [List.length_map] at h
 exact h
theorem order_map_sorted {α:Type} [Inhabited α] (f:α→Int) (l:List α) {i j:Nat} (hij:i≤j) (hj:j<(l11Order (l.map f)).length):f (l.getD ((l11Order (l.map f)).getD i default).toNat default)≤f (l.getD ((l11Order (l.map f)).getD j default).toNat default):=by
 have h:=order_sorted (l.map f) hij hj
 have hr:∀ k:Nat,k<(l11Order (l.map f)).length→0≤(l11Order (l.map f)).getD k default∧(l11Order (l.map f)).getD k default<l.length:=fun k hk=>mem_upto.1 ((order_map f l).mem_iff.1 (getD_mem hk))
 have r1:=hr i (by omega)
 have r2:=hr j hj
 rw [getD_map f (by omega),getD_map f (by omega)] at h
 exact h
theorem byBirth_sorted (x:Family) {i j:Nat} (hij:i≤j) (hj:j<(byBirth x).length):(x.people.getD ((byBirth x).getD i default).toNat default).born≤(x.people.getD ((byBirth x).getD j default).toNat default).born:=order_map_sorted (fun p:Person=>p.born) x.people hij hj
theorem byFrom_sorted (x:Family) {i j:Nat} (hij:i≤j) (hj:j<(byFrom x).length):(x.unions.getD ((byFrom x).getD i default).toNat default).from0≤(x.unions.getD ((byFrom x).getD j default).toNat default).from0:=order_map_sorted (fun p:Union=>p.from0) x.unions hij hj
theorem sorted_val {x:Family} (hx:specIsFamily x=true):l11Sorted x=⟨(reFamily x (byBirth x)).people,(byFrom (reFamily x (byBirth x))).map fun k=>(reFamily x (byBirth x)).unions.getD k.toNat default⟩:=by
 have hv:specPermute x (byBirth x)=(reFamily x (byBirth x),true):=by
  rw [permute_val hx (byBirth_ok x),perm_fam hx (byBirth_ok x) (fun i j h1 h2=>byBirth_sorted x h1 h2)];rfl
 unfold l11Sorted
 rw [map_loop (fun p:Person=>p.born),show l11Order (x.people.map fun p=>p.born)=byBirth x from rfl,hv]
 dsimp only
 rw [map_loop (fun u:Union=>u.from0),map_loop (fun k:Int=>((reFamily x (byBirth x)).unions).getD k.toNat default)]
 rfl
theorem sorted_ok {x:Family} (hx:specIsFamily x=true):specIsFamily (l11Sorted x)=true∧Years (l11Sorted x)∧(l11Sorted x).people.length=x.people.length∧(l11Sorted x).unions.length=x.unions.length:=by
 rw [sorted_val hx]
 have hp:=byBirth_ok x
 have hR:=perm_fam hx hp (fun i j h1 h2=>byBirth_sorted x h1 h2)
 have ho:(byFrom (reFamily x (byBirth x))).Perm (upto (reFamily x (byBirth x)).unions.length):=by
  have h:=(order_ok ((reFamily x (byBirth x)).unions.map fun u=>u.from0)).perm
  rw [List.length_map] at h
  exact h
 have hpl:(reFamily x (byBirth x)).people.length=x.people.length:=by simp [reFamily,hp.len]
 have hul:(reFamily x (byBirth x)).unions.length=x.unions.length:=by simp [reFamily]
 have hol:(byFrom (reFamily x (byBirth x))).length=(reFamily x (byBirth x)).unions.length:=by rw [ho.length_eq,upto_len]
 refine ⟨fam_reorder (P:=(reFamily x (byBirth x)).people) (U:=(reFamily x (byBirth x)).unions) hR ho,⟨fun i j hij hj=>?_,fun i j hij hj=>?_⟩,hpl,by dsimp only;rw [List.length_map,hol,hul]⟩
 ·dsimp only at hj ⊢
  have hget:∀ j:Nat,j<x.people.length→((reFamily x (byBirth x)).people.getD j default).born=(x.people.getD ((byBirth x).getD j default).toNat default).born:=fun j hj=>by
   have:=getD_map (fun i:Int=>rePerson (l1Inverse (byBirth x) ((x.people.length:Nat):Int)).1 (x.people.getD i.toNat default)) (l:=byBirth x) (k:=j) (by rw [hp.len];exact hj)
   show (((byBirth x).map fun i=>rePerson (l1Inverse (byBirth x) ((x.people.length:Nat):Int)).1 (x.people.getD i.toNat default)).getD j default).born=_
   rw [this];rfl
  rw [hget i (by omega),hget j (by omega)]
  exact byBirth_sorted x hij (by rw [hp.len];omega)
 ·dsimp only at hj ⊢
  rw [List.length_map] at hj
  have hr:∀ k:Nat,k<(byFrom (reFamily x (byBirth x))).length→0≤(byFrom (reFamily x (byBirth x))).getD k default∧(byFrom (reFamily x (byBirth x))).getD k default<(reFamily x (byBirth x)).unions.length:=fun k hk=>mem_upto.1 (ho.mem_iff.1 (getD_mem hk))
  rw [getD_map (fun k:Int=>(reFamily x (byBirth x)).unions.getD k.toNat default) (by omega),getD_map (fun k:Int=>(reFamily x (byBirth x)).unions.getD k.toNat default) hj]
  exact byFrom_sorted (reFamily x (byBirth x)) hij hj
theorem chron_ok {x:Family} (hx:specIsFamily x=true):specIsFamily (specChron x)=true∧Years (specChron x)∧(specChron x).people.length=x.people.length∧(specChron x).unions.length=x.unions.length:=by
 have e:specChron x=l11Sorted x:=by unfold specChron;rw [hx];rfl
 rw [e];exact sorted_ok hx
theorem specEqFam_self (x:Family):specEqFam x x=true:=by
 unfold specEqFam
 rw [decide_eq_true rfl,decide_eq_true rfl]
 simp only [Bool.not_true,Bool.or_false,cond_false]
 rw [loopN_all]
 refine ⟨fun j _=>?_,?_⟩
 ·simp
 ·rw [loopN_all]
  exact ⟨fun j _=>by simp,rfl⟩
theorem since_ok {b:List Int} (hb:b.length≤1048576∧∀ y∈b,inR .u8 y) (m:Int):specIsFamily (specChron (crowd b m))=true∧Years (specChron (crowd b m))∧(0<(specChron (crowd b m)).people.length∧(specChron (crowd b m)).people.length≤40∧(specChron (crowd b m)).unions.length≤60):=by
 have hc:=crowd_bd hb m
 have h:=chron_ok hc.1
 have:=hc.2.1.1
 have:=fam_n h.1
 exact ⟨h.1,h.2.1,by omega⟩
theorem since_f {b:List Int} (hb:b.length≤1048576∧∀ y∈b,inR .u8 y) {m:Int}:specIsFamily (specChron (crowd b m))=true:=(since_ok hb m).1
theorem since_nm {b:List Int} (hb:b.length≤1048576∧∀ y∈b,inR .u8 y) {m:Int}:∀ p∈(specChron (crowd b m)).people,p.name.length≤1048576:=fam_names (since_ok hb m).1
theorem since_e {b:List Int} (hb:b.length≤1048576∧∀ y∈b,inR .u8 y) (m y:Int):Early (specChron (crowd b m)) (implKnown (specChron (crowd b m)) y) y:=by rw [known_eq];exact known_early (since_ok hb m).1 (since_ok hb m).2.1 y
theorem since_k {b:List Int} (hb:b.length≤1048576∧∀ y∈b,inR .u8 y) {m y:Int}:specIsFamily (implKnown (specChron (crowd b m)) y)=true:=(since_e hb m y).fam (since_ok hb m).1
theorem since_knm {b:List Int} (hb:b.length≤1048576∧∀ y∈b,inR .u8 y) {m y:Int}:∀ p∈(implKnown (specChron (crowd b m)) y).people,p.name.length≤1048576:=fam_names (since_k hb)
theorem known_len (x:Family) (y:Int):(implKnown x y).people.length≤40∧(implKnown x y).unions.length≤60:=by rw [known_eq];exact specKnown_len x y
theorem known_p (x:Family) (y:Int):(implKnown x y).people.length≤1048576:=Nat.le_trans (known_len x y).1 (by decide)
theorem known_u (x:Family) (y:Int):(implKnown x y).unions.length≤1048576:=Nat.le_trans (known_len x y).2 (by decide)
theorem since_p {b:List Int} (hb:b.length≤1048576∧∀ y∈b,inR .u8 y) {m:Int}:(specChron (crowd b m)).people.length≤1048576:=by have:=since_ok hb m;omega
theorem since_u {b:List Int} (hb:b.length≤1048576∧∀ y∈b,inR .u8 y) {m:Int}:(specChron (crowd b m)).unions.length≤1048576:=by have:=since_ok hb m;omega
theorem since_n {b:List Int} (hb:b.length≤1048576∧∀ y∈b,inR .u8 y) {m:Int}:0<(specChron (crowd b m)).people.length:=(since_ok hb m).2.2.1
theorem known_eqf (x:Family) (y:Int):(implKnown x y).people.length≤1000∧(implKnown x y).unions.length≤1000:=by have:=known_len x y;omega
theorem swp_mem {α:Type} [Inhabited α] {l:List α} {i j:Int} (hi:0≤i∧i<l.length) (hj:0≤j∧j<l.length) {x:α} (hx:x∈swp l i j):x∈l:=by
 unfold swp at hx
 rcases List.mem_or_eq_of_mem_set hx with hx | hx
 ·rcases List.mem_or_eq_of_mem_set hx with hx | hx
  ·exact hx
  ·rw [hx];unfold gi;exact getD_mem (by omega)
 ·rw [hx];unfold gi;exact getD_mem (by omega)
theorem jnQ {S α:Type} {f:(S→α)→α} {k:S→α} (J:S→Prop) (Q:α→Prop) (h1:∀ K:S→α,(∀ s,J s→Q (K s))→Q (f K)) (h2:∀ s,J s→Q (k s)):Q (jn f k):=h1 k h2
def gIns {α:Type} [Inhabited α] (R:α→α→Bool) (l:List α) (x1 x2:Int):List α:=loopW (fun (v1:Int×(List α)) nx1=>bif (decide (v1.1<x2)) then (loopW (fun (v2:Int×(List α)) next=>bif ((decide (x1<v2.1))&&(R (gi v2.2 v2.1) (gi v2.2 (v2.1 - 1)))) then (next (v2.1 - 1,(swp v2.2 v2.1 (v2.1 - 1)))) else (nx1 (v1.1+1,v2.2))) ((v1.1).toNat+1) (v1.1,v1.2)) else v1.2) ((x2 - (x1+1)).toNat+1) (x1+1,l)
def gSwp {α:Type} [Inhabited α] (l:List α) (x1 x2 x3:Int):List α:=loopN (fun i1 (v1:(List α)) next=>next (swp v1 (x1+((i1:Nat):Int)) (x2+((i1:Nat):Int)))) (fun (v1:(List α))=>v1) x3.toNat 0 l
def gRot {α:Type} [Inhabited α] (l:List α) (x1 x2 x3:Int):List α:=loopW (fun (v1:Int×Int×(List α)) next=>bif (!decide (v1.1=v1.2.1)) then (bif (decide (v1.2.1<v1.1)) then (next (v1.1 - v1.2.1,v1.2.1,gSwp v1.2.2 (x2 - v1.1) x2 v1.2.1)) else (next (v1.1,v1.2.1 - v1.1,gSwp v1.2.2 (x2 - v1.1) ((x2+v1.2.1) - v1.1) v1.1))) else (gSwp v1.2.2 (x2 - v1.1) x2 v1.1)) ((x2 - x1+(x3 - x2)).toNat+1) (x2 - x1,x3 - x2,l)
def gSym {α : Type} [Inhabited α] (R : α → α → Bool) : Nat → List α → Int → Int → Int → (List α)
  | 0,_,_,_,_=>default
  | m+1,l,x1,x2,x3=>bif (decide ((x2 - x1)=1)) then (jn (fun K1=>loopW (fun (v1:Int×Int) next=>bif (decide (v1.1<v1.2)) then (bif (R (gi l ((v1.1+v1.2) / 2 ^ 1)) (gi l x1)) then (next (((v1.1+v1.2) / 2 ^ 1)+1,v1.2)) else (next (v1.1,(v1.1+v1.2) / 2 ^ 1))) else (K1 v1.1)) ((x3 - (x2)).toNat+1) (x2,x3)) (fun (j1:Int)=>loopW (fun (v2:Int×(List α)) next=>bif (decide (v2.1<(j1 - 1))) then (next (v2.1+1,(swp v2.2 v2.1 (v2.1+1)))) else v2.2) ((j1 - (x1)).toNat+1) (x1,l))) else (bif (decide ((x3 - x2)=1)) then (jn (fun K2=>loopW (fun (v3:Int×Int) next=>bif (decide (v3.1<v3.2)) then (bif (!(R (gi l x2) (gi l ((v3.1+v3.2) / 2 ^ 1)))) then (next (((v3.1+v3.2) / 2 ^ 1)+1,v3.2)) else (next (v3.1,(v3.1+v3.2) / 2 ^ 1))) else (K2 v3.1)) ((x2 - (x1)).toNat+1) (x1,x2)) (fun (j2:Int)=>loopW (fun (v4:Int×(List α)) next=>bif (decide (j2<v4.1)) then (next (v4.1 - 1,(swp v4.2 v4.1 (v4.1 - 1)))) else v4.2) ((x2 - (j2)).toNat+1) (x2,l))) else (jn (fun K3=>bif (decide (((x1+x3) / 2 ^ 1)<x2)) then (K3 ((((x1+x3) / 2 ^ 1)+x2) - x3,(x1+x3) / 2 ^ 1)) else (K3 (x1,x2))) (fun (j3:Int×Int)=>jn (fun K4=>loopW (fun (v5:Int×Int) next=>bif (decide (v5.1<v5.2)) then (bif (!(R (gi l (((((x1+x3) / 2 ^ 1)+x2) - 1) - ((v5.1+v5.2) / 2 ^ 1))) (gi l ((v5.1+v5.2) / 2 ^ 1)))) then (next (((v5.1+v5.2) / 2 ^ 1)+1,v5.2)) else (next (v5.1,(v5.1+v5.2) / 2 ^ 1))) else (K4 v5.1)) ((j3.2 - (j3.1)).toNat+1) (j3.1,j3.2)) (fun (j4:Int)=>jn (fun K5=>bif ((decide (j4<x2))&&(decide (x2<((((x1+x3) / 2 ^ 1)+x2) - j4)))) then (K5 (gRot l j4 x2 ((((x1+x3) / 2 ^ 1)+x2) - j4))) else (K5 l)) (fun (j5:(List α))=>jn (fun K6=>bif ((decide (x1<j4))&&(decide (j4<((x1+x3) / 2 ^ 1)))) then (K6 (gSym R m j5 x1 j4 ((x1+x3) / 2 ^ 1))) else (K6 j5)) (fun (j6:(List α))=>bif ((decide (((x1+x3) / 2 ^ 1)<((((x1+x3) / 2 ^ 1)+x2) - j4)))&&(decide (((((x1+x3) / 2 ^ 1)+x2) - j4)<x3))) then (gSym R m j6 ((x1+x3) / 2 ^ 1) ((((x1+x3) / 2 ^ 1)+x2) - j4) x3) else j6))))))
def gStb {α:Type} [Inhabited α] (R:α→α→Bool) (l:List α) (x1:Int):(List α):=loopW (fun (v1:Int×Int×(List α)) next=>bif (decide (v1.2.1≤x1)) then (jn (fun K1=>K1 (gIns R v1.2.2 v1.1 v1.2.1)) (fun (j1:(List α))=>next (v1.2.1,v1.2.1+20,j1))) else (jn (fun K2=>K2 (gIns R v1.2.2 v1.1 x1)) (fun (j2:(List α))=>loopW (fun (v2:Int×(List α)) nx2=>bif (decide (v2.1<x1)) then (loopW (fun (v3:Int×Int×(List α)) next=>bif (decide (v3.2.1≤x1)) then (jn (fun K3=>K3 (gSym R 256 v3.2.2 v3.1 (v3.1+v2.1) v3.2.1)) (fun (j3:(List α))=>next (v3.2.1,v3.2.1+(2 * v2.1),j3))) else (bif (decide ((v3.1+v2.1)<x1)) then (nx2 (v2.1 * 2,gSym R 256 v3.2.2 v3.1 (v3.1+v2.1) x1)) else (nx2 (v2.1 * 2,v3.2.2)))) ((x1+1000 - (2 * v2.1)).toNat+1) (0,2 * v2.1,v2.2)) else v2.2) ((x1+20 - (20)).toNat+1) (20,j2)))) ((x1+20 - (20)).toNat+1) (0,20,l)
def Pm {α:Type} (l l':List α):Prop:=l'.length=l.length∧∀ y∈l',y∈l
theorem Pm.refl {α:Type} (l:List α):Pm l l:=⟨rfl,fun _ h=>h⟩
theorem Pm.trans {α:Type} {l m n:List α} (h:Pm l m) (h2:Pm m n):Pm l n:=⟨h2.1.trans h.1,fun y hy=>h.2 y (h2.2 y hy)⟩
theorem Pm.swp {α:Type} [Inhabited α] {l m:List α} (h:Pm l m) {i j:Int} (hi:0≤i∧i<l.length) (hj:0≤j∧j<l.length):Pm l (swp m i j) :=
 ⟨by rw [swp_len];exact h.1,fun y hy=>h.2 y (swp_mem (by rw [h.1];exact hi) (by rw [h.1];exact hj) hy)⟩
theorem gIns_pm {α:Type} [Inhabited α] (R:α→α→Bool) {l:List α} {a b:Int} (h:0≤a∧a≤b∧b≤l.length):Pm l (gIns R l a b):=by
 unfold gIns
 refine loopW_to (fun v=>a+1≤v.1∧Pm l v.2) (fun v=>(b - v.1).toNat) (fun r=>Pm l r) (fun v next hv hn=>?_) _ _ (by dsimp only;omega) ⟨by simp,.refl _⟩
 refine cond_both (p:=fun r=>Pm l r) (fun hc=>?_) (fun _=>hv.2)
 have hc:=of_decide_eq_true hc
 refine loopW_to (fun w=>(a≤w.1∧w.1≤v.1)∧Pm l w.2) (fun w=>w.1.toNat) (fun r=>Pm l r) (fun w next2 hw hn2=>?_) _ _ (by dsimp only;omega) ⟨by dsimp only;omega,hv.2⟩
 refine cond_both (p:=fun r=>Pm l r) (fun hd=>?_) (fun _=>hn _ ⟨by dsimp only;omega,hw.2⟩ (by dsimp only;omega))
 simp only [Bool.and_eq_true,decide_eq_true_eq] at hd
 exact hn2 _ ⟨by dsimp only;omega,hw.2.swp ⟨by omega,by omega⟩ ⟨by omega,by omega⟩⟩ (by dsimp only;omega)
theorem gSwp_pm {α:Type} [Inhabited α] {l:List α} {a b n:Int} (h:(0≤a∧0≤b∧0≤n)∧a+n≤l.length∧b+n≤l.length):Pm l (gSwp l a b n):=by
 unfold gSwp
 exact loopN_to (fun _ r=>Pm l r) (fun r=>Pm l r) (.refl _) (fun i v next hi hv hn=>hn _ (hv.swp ⟨by omega,by omega⟩ ⟨by omega,by omega⟩)) (fun v hv=>hv)
theorem gRot_pm {α:Type} [Inhabited α] {l:List α} {a m b:Int} (h:0≤a∧a<m∧m<b∧b≤l.length):Pm l (gRot l a m b):=by
 unfold gRot
 refine loopW_to (fun v=>(1≤v.1∧1≤v.2.1∧v.1≤m - a∧v.2.1≤b - m)∧Pm l v.2.2) (fun v=>(v.1+v.2.1).toNat) (fun r=>Pm l r) (fun v next hv hn=>?_) _ _ (by dsimp only;omega) ⟨by dsimp only;omega,.refl _⟩
 have hl:=hv.2.1
 refine cond_both (p:=fun r=>Pm l r) (fun hc=>?_) (fun hc=>hv.2.trans (gSwp_pm (by simp only [Bool.not_eq_false',decide_eq_true_eq] at hc;omega)))
 simp only [Bool.not_eq_true',decide_eq_false_iff_not] at hc
 refine cond_both (p:=fun r=>Pm l r) (fun hd=>?_) (fun hd=>?_)
 ·have hd:=of_decide_eq_true hd
  exact hn _ ⟨by dsimp only;omega,hv.2.trans (gSwp_pm (by omega))⟩ (by dsimp only;omega)
 ·have hd:=of_decide_eq_false hd
  exact hn _ ⟨by dsimp only;omega,hv.2.trans (gSwp_pm (by omega))⟩ (by dsimp only;omega)
theorem gSym_pm {α : Type} [Inhabited α] (R : α → α → Bool) : ∀ (m : Nat) {l : List α} {a d b : Int}, (b - a).toNat < m → 0 ≤ a ∧ a < d ∧ d < b ∧ b ≤ l.length → Pm l (gSym R m l a d b)
  | 0,l,a,d,b,hm,_=>absurd hm (Nat.not_lt_zero _)
  | m+1,l,a,d,b,hm,h=>by
    rw [gSym]
    refine cond_both (p:=fun r=>Pm l r) (fun c1=>?_) (fun c1=>cond_both (p:=fun r=>Pm l r) (fun c2=>?_) (fun c2=>?_))
    · refine jnQ (fun (j:Int)=>j≤b) (fun r=>Pm l r) (fun K hK=>?_) (fun j hj=>?_)
      · refine loopW_to (fun v=>v.1≤v.2∧v.2≤b) (fun v=>(v.2 - v.1).toNat) (fun r=>Pm l r) (fun v next hv hn=>?_) _ _ (by dsimp only;omega) (by dsimp only;omega)
        refine cond_both (p:=fun r=>Pm l r) (fun hc=>?_) (fun _=>hK _ (by omega))
        have hc:=of_decide_eq_true hc
        exact cond_both (p:=fun r=>Pm l r) (fun _=>hn _ (by dsimp only;omega) (by dsimp only;omega)) (fun _=>hn _ (by dsimp only;omega) (by dsimp only;omega))
      · refine loopW_to (fun v=>a≤v.1∧Pm l v.2) (fun v=>(j - v.1).toNat) (fun r=>Pm l r) (fun v next hv hn=>?_) _ _ (by dsimp only;omega) ⟨by dsimp only;omega,.refl _⟩
        refine cond_both (p:=fun r=>Pm l r) (fun hc=>?_) (fun _=>hv.2)
        have hc:=of_decide_eq_true hc
        exact hn _ ⟨by dsimp only;omega,hv.2.swp ⟨by omega,by omega⟩ ⟨by omega,by omega⟩⟩ (by dsimp only;omega)
    · refine jnQ (fun (j:Int)=>a≤j) (fun r=>Pm l r) (fun K hK=>?_) (fun j hj=>?_)
      · refine loopW_to (fun v=>a≤v.1∧v.1≤v.2) (fun v=>(v.2 - v.1).toNat) (fun r=>Pm l r) (fun v next hv hn=>?_) _ _ (by dsimp only;omega) (by dsimp only;omega)
        refine cond_both (p:=fun r=>Pm l r) (fun hc=>?_) (fun _=>hK _ (by omega))
        have hc:=of_decide_eq_true hc
        exact cond_both (p:=fun r=>Pm l r) (fun _=>hn _ (by dsimp only;omega) (by dsimp only;omega)) (fun _=>hn _ (by dsimp only;omega) (by dsimp only;omega))
      · refine loopW_to (fun v=>v.1≤d∧Pm l v.2) (fun v=>(v.1 - j).toNat) (fun r=>Pm l r) (fun v next hv hn=>?_) _ _ (by dsimp only;omega) ⟨by dsimp only;omega,.refl _⟩
        refine cond_both (p:=fun r=>Pm l r) (fun hc=>?_) (fun _=>hv.2)
        have hc:=of_decide_eq_true hc
        exact hn _ ⟨by dsimp only;omega,hv.2.swp ⟨by omega,by omega⟩ ⟨by omega,by omega⟩⟩ (by dsimp only;omega)
    · have c1:=of_decide_eq_false c1
      have c2:=of_decide_eq_false c2
      refine jnQ (fun (j:Int×Int)=>(a≤j.1∧j.1≤j.2∧j.2≤d)∧j.2≤(a+b) / 2 ^ 1∧(a+b) / 2 ^ 1+d - j.1≤b) (fun r=>Pm l r) (fun K hK=>?_) (fun j hj=>?_)
      · refine cond_both (p:=fun r=>Pm l r) (fun hc=>hK _ ?_) (fun hc=>hK _ ?_)
        · have hc:=of_decide_eq_true hc;dsimp only;omega
        · have hc:=of_decide_eq_false hc;dsimp only;omega
      · refine jnQ (fun (s:Int)=>j.1≤s∧s≤j.2) (fun r=>Pm l r) (fun K hK=>?_) (fun s hs=>?_)
        · refine loopW_to (fun v=>j.1≤v.1∧v.1≤v.2∧v.2≤j.2) (fun v=>(v.2 - v.1).toNat) (fun r=>Pm l r) (fun v next hv hn=>?_) _ _ (by dsimp only;omega) (by dsimp only;omega)
          refine cond_both (p:=fun r=>Pm l r) (fun hc=>?_) (fun _=>hK _ (by omega))
          have hc:=of_decide_eq_true hc
          exact cond_both (p:=fun r=>Pm l r) (fun _=>hn _ (by dsimp only;omega) (by dsimp only;omega)) (fun _=>hn _ (by dsimp only;omega) (by dsimp only;omega))
        · refine jnQ (fun (x:List α)=>Pm l x) (fun r=>Pm l r) (fun K hK=>?_) (fun x hx=>?_)
          · refine cond_both (p:=fun r=>Pm l r) (fun hc=>hK _ ?_) (fun hc=>hK _ (.refl _))
            simp only [Bool.and_eq_true,decide_eq_true_eq] at hc
            exact gRot_pm (by omega)
          · have hxl:=hx.1
            refine jnQ (fun (x:List α)=>Pm l x) (fun r=>Pm l r) (fun K hK=>?_) (fun z hz=>?_)
            · refine cond_both (p:=fun r=>Pm l r) (fun hc=>hK _ ?_) (fun hc=>hK _ hx)
              simp only [Bool.and_eq_true,decide_eq_true_eq] at hc
              exact hx.trans (gSym_pm R m (by omega) (by omega))
            · have hzl:=hz.1
              refine cond_both (p:=fun r=>Pm l r) (fun hc=>?_) (fun hc=>hz)
              simp only [Bool.and_eq_true,decide_eq_true_eq] at hc
              exact hz.trans (gSym_pm R m (by omega) (by omega))
end Go.Proofs.Ytepefimocflfkaa
