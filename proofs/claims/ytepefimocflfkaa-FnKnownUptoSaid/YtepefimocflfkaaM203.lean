import Derived.Test.YtepefimocflfkaaM201
set_option maxHeartbeats 4000000
set_option linter.unusedSimpArgs false
set_option linter.unusedVariables false
namespace Go.Proofs.Ytepefimocflfkaa
open Go Go.Lite Go.Proofs
structure BdI (x:Family) (L:List Event) (p:List Person) (u:List Union):Prop where
 pl:p.length=(L.filter (isK 1)).length
 ul:u.length=(L.filter (isK 2)).length
 pg : ∀ j : Nat, j < p.length → p.getD j default = Person.mk (x.people.getD j default).name (x.people.getD j default).sex (x.people.getD j default).father (x.people.getD j default).mother (x.people.getD j default).born (p.getD j default).died ∧
   ((dEv x j∈L∧(p.getD j default).died=(x.people.getD j default).died)∨(dEv x j ∉ L∧(p.getD j default).died=-1))
 ug : ∀ j : Nat, j < u.length → u.getD j default = Union.mk (x.unions.getD j default).man (x.unions.getD j default).woman (x.unions.getD j default).from0 (u.getD j default).to ∧
   ((pEv x j∈L∧(u.getD j default).to=(x.unions.getD j default).to)∨(pEv x j ∉ L∧(u.getD j default).to=-1))
theorem pre_map {α:Type} {L R:List α} {n:Nat} {f:Nat→α} (h:L++R=(List.range n).map f):L.length≤n∧L=(List.range L.length).map f∧(∀ e R',R=e :: R'→L.length<n∧e=f L.length):=by
 have hl:=congrArg List.length h
 rw [List.length_append,List.length_map,List.length_range] at hl
 have hk:∀ k,k<n→(L++R)[k]?=some (f k):=fun k hk=>by rw [h,List.getElem?_map,List.getElem?_range hk];rfl
 refine ⟨by omega,?_,fun e R' hR=>?_⟩
 ·apply List.ext_getElem?
  intro k
  rcases Nat.lt_or_ge k L.length with g | g
  ·have:=hk k (by omega)
   rw [List.getElem?_append_left g] at this
   rw [this,List.getElem?_map,List.getElem?_range g];rfl
  ·rw [List.getElem?_eq_none g,List.getElem?_eq_none (by rw [List.length_map,List.length_range];exact g)]
 ·subst hR
  rw [List.length_cons] at hl
  have:=hk L.length (by omega)
  rw [List.getElem?_append_right (Nat.le_refl _),Nat.sub_self,List.getElem?_cons_zero] at this
  exact ⟨by omega,Option.some.inj this⟩
section
variable {x:Family} {L:List Event} {R:List Event} {p:List Person} {u:List Union}
theorem bd_born (hy:Years x) (hA:l11Events x=L++R) (h:BdI x L p u) (hx:specIsFamily x=true):p.length≤x.people.length∧∀ j:Nat,j<x.people.length→(bEv x j∈L↔j<p.length):=by
 have e:=sortedEv_b hy
 rw [hA,List.filter_append] at e
 obtain ⟨h1,h2,_⟩:=pre_map e
 rw [← h.pl] at h1 h2
 refine ⟨h1,fun j hj=>⟨fun hm=>?_,fun hm=>?_⟩⟩
 ·have:bEv x j∈L.filter (isK 1):=List.mem_filter.2 ⟨hm,rfl⟩
  rw [h2] at this
  obtain ⟨i,hi,ei⟩:=List.mem_map.1 this
  have hi:=List.mem_range.1 hi
  have:=bEv_inj hx (by omega) hj ei
  omega
 ·have:bEv x j∈L.filter (isK 1):=by rw [h2];exact List.mem_map.2 ⟨j,List.mem_range.2 hm,rfl⟩
  exact (List.mem_filter.1 this).1
theorem bd_wed (hy:Years x) (hA:l11Events x=L++R) (h:BdI x L p u) (hx:specIsFamily x=true):u.length≤x.unions.length∧∀ j:Nat,j<x.unions.length→(uEv x j∈L↔j<u.length):=by
 have e:=sortedEv_u hy
 rw [hA,List.filter_append] at e
 obtain ⟨h1,h2,_⟩:=pre_map e
 rw [← h.ul] at h1 h2
 refine ⟨h1,fun j hj=>⟨fun hm=>?_,fun hm=>?_⟩⟩
 ·have:uEv x j∈L.filter (isK 2):=List.mem_filter.2 ⟨hm,rfl⟩
  rw [h2] at this
  obtain ⟨i,hi,ei⟩:=List.mem_map.1 this
  have hi:=List.mem_range.1 hi
  have:=un_inj hx (by omega) hj (congrArg Event.a ei) (congrArg Event.b ei)
  omega
 ·have:uEv x j∈L.filter (isK 2):=by rw [h2];exact List.mem_map.2 ⟨j,List.mem_range.2 hm,rfl⟩
  exact (List.mem_filter.1 this).1
theorem bd_before {e f:Event} (hA:l11Events x=L++e :: R) (hf:f∈evList x) (hk:evKey f<evKey e):f∈L:=by
 have h1:f∈l11Events x:=(sortedEv_perm x).mem_iff.2 hf
 have h2:=sortedEv_srt x
 rw [hA] at h1 h2
 obtain ⟨_,h3,_⟩:=List.pairwise_append.1 h2
 obtain ⟨h4,_⟩:=List.pairwise_cons.1 h3
 rcases List.mem_append.1 h1 with g | g
 ·exact g
 ·rcases List.mem_cons.1 g with g | g
  ·subst g;omega
  ·have:=h4 f g;omega
theorem bd_upto {e f:Event} (hA:l11Events x=L++e :: R) (hf:f∈L):evKey f≤evKey e:=by
 have h2:=sortedEv_srt x
 rw [hA] at h2
 exact (List.pairwise_append.1 h2).2.2 f hf e List.mem_cons_self
theorem bd_new {e:Event} (hx:specIsFamily x=true) (hA:l11Events x=L++e :: R):e ∉ L:=by
 have h:=(sortedEv_perm x).nodup_iff.2 (evList_nodup hx)
 rw [hA] at h
 exact fun hm=>(List.nodup_append.1 h).2.2 e hm e List.mem_cons_self rfl
theorem filt_k1 (k:Int) {e:Event} (h:isK k e=true):(L++[e]).filter (isK k)=L.filter (isK k)++[e]:=by rw [List.filter_append,List.filter_cons,h];simp
theorem filt_k0 (k:Int) {e:Event} (h:isK k e=false):(L++[e]).filter (isK k)=L.filter (isK k):=by rw [List.filter_append,List.filter_cons,h];simp
theorem mem_but {f e:Event} (h:f.kind≠e.kind):f∈L++[e]↔f∈L:=by
 rw [List.mem_append,List.mem_singleton]
 exact ⟨fun h9=>h9.elim id fun e9=>absurd (congrArg Event.kind e9) h,.inl⟩
theorem l11Union_at {f:Family} {a b:Int} {i:Nat} (hi:i<f.unions.length) (h1:(f.unions.getD i default).man=a∧(f.unions.getD i default).woman=b) (h2:∀ j:Nat,j<i→¬ ((f.unions.getD j default).man=a∧(f.unions.getD j default).woman=b)):l11Union f a b=((i:Nat):Int):=by
 unfold l11Union
 refine loopN_to (fun k (v:Unit)=>k≤i) (fun r=>r=((i:Nat):Int)) (Nat.zero_le _) (fun k v next hk hv hn=>?_) (fun v hv=>by omega)
 by_cases c:k=i
 ·subst c
  rw [decide_eq_true h1.1,decide_eq_true h1.2];rfl
 ·have h3:=h2 k (by omega)
  have:(decide (((f.unions.getD k default).man)=a)&&decide (((f.unions.getD k default).woman)=b))=false:=by
   cases c:(decide (((f.unions.getD k default).man)=a)&&decide (((f.unions.getD k default).woman)=b))
   ·rfl
   ·simp only [Bool.and_eq_true,decide_eq_true_eq] at c
    exact absurd c h3
  rw [this]
  exact hn _ (by omega)
theorem bd_step {e:Event} (hx:specIsFamily x=true) (hy:Years x) (hA:l11Events x=L++e :: R) (h:BdI x L p u):(l11Do ⟨p,u⟩ e).2=true∧BdI x (L++[e]) (l11Do ⟨p,u⟩ e).1.people (l11Do ⟨p,u⟩ e).1.unions:=by
 have he:e∈evList x:=(sortedEv_perm x).mem_iff.1 (by rw [hA];exact List.mem_append_right _ List.mem_cons_self)
 have hb:=bd_born hy hA h hx
 have hw:=bd_wed hy hA h hx
 have hn:=fam_n hx
 have hin:∀ q:Int,0≤q∧q<x.people.length→8 * (x.people.getD q.toNat default).born+1<evKey e→q<p.length:=fun q hq hk=>by
  have:=(hb.2 q.toNat (by omega)).1 (bd_before hA (bEv_mem (by omega)) hk)
  omega
 rcases evList_mem he with ⟨i,hi,rfl⟩ | ⟨i,hi,rfl⟩ | ⟨i,hi,h0,rfl⟩ | ⟨i,hi,h0,rfl⟩
 ·have e1:=sortedEv_b hy
  rw [hA,List.filter_append,List.filter_cons,show isK 1 (bEv x i)=true from rfl,if_pos rfl] at e1
  obtain ⟨g1,_,g3⟩:=pre_map e1
  obtain ⟨g4,g5⟩:=g3 _ _ rfl
  rw [← h.pl] at g4 g5
  have hip:=bEv_inj hx hi g4 g5
  subst hip
  have hv:l11Do ⟨p,u⟩ (bEv x p.length)=(⟨p++[Person.mk (x.people.getD p.length default).name (x.people.getD p.length default).sex (x.people.getD p.length default).father (x.people.getD p.length default).mother (x.people.getD p.length default).born (-1)],u⟩,true):=by
   unfold l11Do bEv
   rw [decide_eq_true rfl]
   simp only [Bool.not_true,Bool.false_and,cond_false,cond_true]
   rw [decide_eq_true (by omega)]
  rw [hv]
  refine ⟨rfl,?_,?_,fun j hj=>?_,fun j hj=>?_⟩
  ·rw [filt_k1 1 rfl,List.length_append,List.length_append,h.pl];rfl
  ·rw [filt_k0 2 rfl];exact h.ul
  ·dsimp only at hj ⊢
   rw [mem_but (show (dEv x j).kind≠(bEv x p.length).kind by intro c;exact absurd c (by decide:¬ (4:Int)=1))]
   rw [List.length_append,List.length_singleton] at hj
   rw [getD_snoc]
   by_cases c:j<p.length
   ·rw [if_pos c];exact h.pg j c
   ·have:j=p.length:=by omega
    subst this
    rw [if_neg c,if_pos rfl]
    refine ⟨rfl,.inr ⟨fun hm=>?_,rfl⟩⟩
    have k1:8 * (x.people.getD p.length default).died+4≤8 * (x.people.getD p.length default).born+1:=bd_upto hA hm
    have hm2:dEv x p.length∈evList x:=(sortedEv_perm x).mem_iff.1 (by rw [hA];exact List.mem_append_left _ hm)
    have k2:=(fam_p hx hi).died
    have k3:=(fam_p hx hi).born
    rcases evList_mem hm2 with ⟨i2,_,q⟩ | ⟨i2,_,q⟩ | ⟨i2,_,_,q⟩ | ⟨i2,_,q0,q⟩
    ·exact absurd (congrArg Event.kind q) (by decide:¬ (4:Int)=1)
    ·exact absurd (congrArg Event.kind q) (by decide:¬ (4:Int)=2)
    ·exact absurd (congrArg Event.kind q) (by decide:¬ (4:Int)=3)
    ·have q2:(x.people.getD p.length default).died=(x.people.getD i2 default).died:=congrArg Event.year q
     omega
  ·rw [mem_but (show (pEv x j).kind≠(bEv x p.length).kind by intro c;exact absurd c (by decide:¬ (3:Int)=1))]
   exact h.ug j hj
 ·have e1:=sortedEv_u hy
  rw [hA,List.filter_append,List.filter_cons,show isK 2 (uEv x i)=true from rfl,if_pos rfl] at e1
  obtain ⟨g1,_,g3⟩:=pre_map e1
  obtain ⟨g4,g5⟩:=g3 _ _ rfl
  rw [← h.ul] at g4 g5
  have hip:=un_inj hx hi g4 (congrArg Event.a g5) (congrArg Event.b g5)
  subst hip
  have f:=fam_u hx hi
  have fm:=f.man;have fw:=f.woman;have ff:=f.from0
  have kk:evKey (uEv x u.length)=8 * (x.unions.getD u.length default).from0+2:=rfl
  have hm:=hin _ fm (by omega)
  have hwm:=hin _ fw (by omega)
  have hv:l11Do ⟨p,u⟩ (uEv x u.length)=(⟨p,u++[Union.mk (x.unions.getD u.length default).man (x.unions.getD u.length default).woman (x.unions.getD u.length default).from0 (-1)]⟩,true):=by
   unfold l11Do uEv l1In
   dsimp only
   rw [decide_eq_true (show 0≤(x.unions.getD u.length default).man by omega),decide_eq_true (show (x.unions.getD u.length default).man≤((p.length:Nat):Int) - 1 by omega),decide_eq_true (show 0≤(x.unions.getD u.length default).woman by omega),decide_eq_true (show (x.unions.getD u.length default).woman≤((p.length:Nat):Int) - 1 by omega)]
   rw [decide_eq_true (show ((((u++[Union.mk (x.unions.getD u.length default).man (x.unions.getD u.length default).woman (x.unions.getD u.length default).from0 (-1)]).length:Nat):Int)≤60) by rw [List.length_append,List.length_singleton];omega)]
   rfl
  rw [hv]
  refine ⟨rfl,?_,?_,fun j hj=>?_,fun j hj=>?_⟩
  ·rw [filt_k0 1 rfl];exact h.pl
  ·rw [filt_k1 2 rfl,List.length_append,List.length_append,h.ul];rfl
  ·rw [mem_but (show (dEv x j).kind≠(uEv x u.length).kind by intro c;exact absurd c (by decide:¬ (4:Int)=2))]
   exact h.pg j hj
  ·dsimp only at hj ⊢
   rw [mem_but (show (pEv x j).kind≠(uEv x u.length).kind by intro c;exact absurd c (by decide:¬ (3:Int)=2))]
   rw [List.length_append,List.length_singleton] at hj
   rw [getD_snoc]
   by_cases c:j<u.length
   ·rw [if_pos c];exact h.ug j c
   ·have:j=u.length:=by omega
    subst this
    rw [if_neg c,if_pos rfl]
    refine ⟨rfl,.inr ⟨fun hm=>?_,rfl⟩⟩
    have k1:8 * (x.unions.getD u.length default).to+3≤8 * (x.unions.getD u.length default).from0+2:=bd_upto hA hm
    have hm2:pEv x u.length∈evList x:=(sortedEv_perm x).mem_iff.1 (by rw [hA];exact List.mem_append_left _ hm)
    have k2:=f.to
    have k3:=(fam_p hx (k:=(x.unions.getD u.length default).man.toNat) (by omega)).born
    rcases evList_mem hm2 with ⟨i2,_,q⟩ | ⟨i2,_,q⟩ | ⟨i2,_,q0,q⟩ | ⟨i2,_,q0,q⟩
    ·exact absurd (congrArg Event.kind q) (by decide:¬ (3:Int)=1)
    ·exact absurd (congrArg Event.kind q) (by decide:¬ (3:Int)=2)
    ·have q2:(x.unions.getD u.length default).to=(x.unions.getD i2 default).to:=congrArg Event.year q
     omega
    ·exact absurd (congrArg Event.kind q) (by decide:¬ (3:Int)=4)
 ·have f:=fam_u hx hi
  have fm:=f.man;have fw:=f.woman;have ff:=f.from0;have ft:=f.to
  have kk:evKey (pEv x i)=8 * (x.unions.getD i default).to+3:=rfl
  have hm:=hin _ fm (by omega)
  have hiu : i < u.length := (hw.2 i hi).1 (bd_before hA (uEv_mem hi) (by
    show 8 * (x.unions.getD i default).from0+2<_
    omega))
  have hg:=fun j hj=>(h.ug j hj).1
  have hat:l11Union ⟨p,u⟩ (x.unions.getD i default).man (x.unions.getD i default).woman=((i:Nat):Int):=by
   refine l11Union_at (f:=⟨p,u⟩) hiu (by dsimp only;rw [hg i hiu];exact ⟨rfl,rfl⟩) fun j hj c=>?_
   dsimp only at c
   rw [hg j (by omega)] at c
   have:=un_inj hx (show j<x.unions.length by omega) hi c.1 c.2
   omega
  have hto:(u.getD i default).to=-1:=by
   rcases (h.ug i hiu).2 with g | g
   ·exact absurd g.1 (bd_new hx hA)
   ·exact g.2
  have hv:l11Do ⟨p,u⟩ (pEv x i)=(⟨p,u.set i (Union.mk (x.unions.getD i default).man (x.unions.getD i default).woman (x.unions.getD i default).from0 (x.unions.getD i default).to)⟩,true):=by
   unfold l11Do pEv l1In
   dsimp only
   rw [hat,decide_eq_true (show 0≤(x.unions.getD i default).man by omega),decide_eq_true (show (x.unions.getD i default).man≤((p.length:Nat):Int) - 1 by omega),Int.toNat_natCast,hto,decide_eq_false (show ¬ ((i:Nat):Int)<0 by omega)]
   have e9:=hg i hiu
   have e1:(u.getD i default).man=(x.unions.getD i default).man:=by rw [e9]
   have e2:(u.getD i default).woman=(x.unions.getD i default).woman:=by rw [e9]
   have e3:(u.getD i default).from0=(x.unions.getD i default).from0:=by rw [e9]
   rw [e1,e2,e3]
   rfl
  rw [hv]
  refine ⟨rfl,?_,?_,fun j hj=>?_,fun j hj=>?_⟩
  ·rw [filt_k0 1 rfl];exact h.pl
  ·rw [filt_k0 2 rfl,List.length_set];exact h.ul
  ·rw [mem_but (show (dEv x j).kind≠(pEv x i).kind by intro c;exact absurd c (by decide:¬ (4:Int)=3))]
   exact h.pg j hj
  ·dsimp only at hj ⊢
   rw [List.length_set] at hj
   rw [getD_set]
   by_cases c:j=i
   ·subst c
    rw [if_pos ⟨rfl,hj⟩]
    exact ⟨rfl,.inl ⟨List.mem_append_right _ (List.mem_singleton.2 rfl),rfl⟩⟩
   ·rw [if_neg (fun c2=>c c2.1)]
    have hne:pEv x j∈L++[pEv x i]↔pEv x j∈L:=by
     rw [List.mem_append,List.mem_singleton]
     exact ⟨fun h9=>h9.elim id fun e9=>absurd (un_inj hx (by omega) hi (congrArg Event.a e9) (congrArg Event.b e9)) c,.inl⟩
    rw [hne]
    exact h.ug j hj
 ·have f:=fam_p hx hi
  have fb:=f.born;have fd:=f.died
  have kk:evKey (dEv x i)=8 * (x.people.getD i default).died+4:=rfl
  have hip : i < p.length := (hb.2 i hi).1 (bd_before hA (bEv_mem hi) (by
    show 8 * (x.people.getD i default).born+1<_
    omega))
  have hg:=fun j hj=>(h.pg j hj).1
  have hto:(p.getD i default).died=-1:=by
   rcases (h.pg i hip).2 with g | g
   ·exact absurd g.1 (bd_new hx hA)
   ·exact g.2
  have hv:l11Do ⟨p,u⟩ (dEv x i)=(⟨p.set i (Person.mk (x.people.getD i default).name (x.people.getD i default).sex (x.people.getD i default).father (x.people.getD i default).mother (x.people.getD i default).born (x.people.getD i default).died),u⟩,true):=by
   unfold l11Do dEv l1In
   dsimp only
   rw [decide_eq_true (show (0:Int)≤((i:Nat):Int) by omega),decide_eq_true (show ((i:Nat):Int)≤((p.length:Nat):Int) - 1 by omega),Int.toNat_natCast,hto]
   have e9:=hg i hip
   have e1:(p.getD i default).name=(x.people.getD i default).name:=by rw [e9]
   have e2:(p.getD i default).sex=(x.people.getD i default).sex:=by rw [e9]
   have e3:(p.getD i default).father=(x.people.getD i default).father:=by rw [e9]
   have e4:(p.getD i default).mother=(x.people.getD i default).mother:=by rw [e9]
   have e5:(p.getD i default).born=(x.people.getD i default).born:=by rw [e9]
   rw [e1,e2,e3,e4,e5]
   rfl
  rw [hv]
  refine ⟨rfl,?_,?_,fun j hj=>?_,fun j hj=>?_⟩
  ·rw [filt_k0 1 rfl,List.length_set];exact h.pl
  ·rw [filt_k0 2 rfl];exact h.ul
  ·dsimp only at hj ⊢
   rw [List.length_set] at hj
   rw [getD_set]
   by_cases c:j=i
   ·subst c
    rw [if_pos ⟨rfl,hj⟩]
    exact ⟨rfl,.inl ⟨List.mem_append_right _ (List.mem_singleton.2 rfl),rfl⟩⟩
   ·rw [if_neg (fun c2=>c c2.1)]
    have hne:dEv x j∈L++[dEv x i]↔dEv x j∈L:=by
     rw [List.mem_append,List.mem_singleton]
     exact ⟨fun h9=>h9.elim id fun e9=>absurd (show ((j:Nat):Int)=((i:Nat):Int) from congrArg Event.a e9) (by omega),.inl⟩
    rw [hne]
    exact h.pg j hj
  ·rw [mem_but (show (pEv x j).kind≠(dEv x i).kind by intro c;exact absurd c (by decide:¬ (3:Int)=4))]
   exact h.ug j hj
end
theorem take_of_filter {α : Type} (f : α → Int) (y : Int) : ∀ (l : List α), l.Pairwise (fun a b => f a ≤ f b) → ∃ c : Nat, c ≤ l.length ∧ l.filter (fun e => decide (f e ≤ y)) = l.take c ∧ (∀ e ∈ l.take c, f e ≤ y) ∧ ∀ e ∈ l.drop c, y < f e
  | [],_=>⟨0,Nat.le_refl _,rfl,fun e he=>absurd he List.not_mem_nil,fun e he=>absurd he List.not_mem_nil⟩
  | a :: l,h=>by
    obtain ⟨h1,h2⟩:=List.pairwise_cons.1 h
    by_cases c:f a≤y
    · obtain ⟨n,g0,g1,g2,g3⟩:=take_of_filter f y l h2
      refine ⟨n+1,by simp;exact g0,by rw [List.filter_cons,decide_eq_true c,if_pos rfl,g1];rfl,fun e he=>?_,g3⟩
      rcases List.mem_cons.1 he with e1 | e1
      · subst e1;exact c
      · exact g2 e e1
    · refine ⟨0,Nat.zero_le _,?_,fun e he=>absurd he List.not_mem_nil,fun e he=>?_⟩
      · rw [List.take_zero,List.filter_eq_nil_iff]
        intro e he
        rcases List.mem_cons.1 he with e1 | e1
        · subst e1;simpa using c
        · have:=h1 e e1;simp;omega
      · rcases List.mem_cons.1 he with e1 | e1
        · subst e1;omega
        · have:=h1 e e1;omega
theorem sortedEv_yr (x:Family):(l11Events x).Pairwise fun a b=>a.year≤b.year:=by
 refine List.Pairwise.imp_of_mem (fun {a b} ha hb h=>?_) (sortedEv_srt x)
 have h1:=evList_kind x a ((sortedEv_perm x).mem_iff.1 ha)
 have h2:=evList_kind x b ((sortedEv_perm x).mem_iff.1 hb)
 unfold evKey at h
 omega
theorem build_early {x:Family} (hx:specIsFamily x=true) (hy:Years x) (y:Int):specBuild ((l11Events x).filter fun e=>decide (e.year≤y))=(specKnown x y,true):=by
 obtain ⟨c,hc,e1,h1,h2⟩:=take_of_filter (fun e:Event=>e.year) y (l11Events x) (sortedEv_yr x)
 rw [e1]
 have hlen:((l11Events x).take c).length=c:=by rw [List.length_take];omega
 have hget:∀ i:Nat,i<c→((l11Events x).take c).getD i default=(l11Events x).getD i default:=fun i hi=>by
  rw [List.getD_eq_getElem?_getD,List.getD_eq_getElem?_getD,List.getElem?_take,if_pos hi]
 have hsp:∀ i:Nat,i<c→l11Events x=(l11Events x).take i++(l11Events x).getD i default :: (l11Events x).drop (i+1):=fun i hi=>by
  have e:(l11Events x).drop i=(l11Events x).getD i default :: (l11Events x).drop (i+1):=by
   rw [List.drop_eq_getElem_cons (by omega),getD_of_lt (by omega)]
  rw [← e,List.take_append_drop]
 unfold specBuild
 rw [hlen]
 refine loopN_to (fun i (v:List Person×List Union)=>BdI x ((l11Events x).take i) v.1 v.2) (fun r=>r=(specKnown x y,true)) ⟨by simp,by simp,fun j hj=>absurd hj (Nat.not_lt_zero _),fun j hj=>absurd hj (Nat.not_lt_zero _)⟩ (fun i v next hi hv hn=>?_) (fun v hv=>?_)
 ·have hyr:((decide (0<((i:Nat):Int)))&&(decide (((((l11Events x).take c).getD i default).year)<((((l11Events x).take c).getD ((((i:Nat):Int) - 1).toNat) default).year))))=false:=by
   by_cases c0:0<i
   ·have e9:(((i:Nat):Int) - 1).toNat=i - 1:=by omega
    rw [e9,hget i hi,hget (i - 1) (by omega)]
    have:=getD_pw (sortedEv_yr x) i (by omega) (i - 1) (by omega)
    rw [decide_eq_false (show ¬ ((l11Events x).getD i default).year<((l11Events x).getD (i - 1) default).year by omega),Bool.and_false]
   ·rw [decide_eq_false (show ¬ 0<((i:Nat):Int) by omega),Bool.false_and]
  rw [hyr,hget i hi]
  obtain ⟨s1,s2⟩:=bd_step hx hy (hsp i hi) hv
  rw [show (Family.mk v.1 v.2:Family)=⟨v.1,v.2⟩ from rfl,s1]
  simp only [Bool.not_true,cond_false]
  refine hn _ ?_
  rw [take_snoc _ default (by omega)]
  exact s2
 ·have hA:l11Events x=(l11Events x).take c++(l11Events x).drop c:=(List.take_append_drop c _).symm
  have hb:=bd_born hy hA hv hx
  have hw:=bd_wed hy hA hv hx
  have hin:∀ e:Event,e∈evList x→(e∈(l11Events x).take c∧e.year≤y)∨(e ∉ (l11Events x).take c∧y<e.year):=fun e he=>by
   have hm:e∈l11Events x:=(sortedEv_perm x).mem_iff.2 he
   have hnd:=(sortedEv_perm x).nodup_iff.2 (evList_nodup hx)
   rw [hA] at hm hnd
   rcases List.mem_append.1 hm with g | g
   ·exact .inl ⟨g,h1 e g⟩
   ·exact .inr ⟨fun g2=>(List.nodup_append.1 hnd).2.2 e g2 e g rfl,h2 e g⟩
  have hE:Early x ⟨v.1,v.2⟩ y:=by
   refine ⟨hb.1,fun i hi=>?_,fun i g1 g2=>?_,hw.1,fun i hi=>?_,fun i g1 g2=>?_⟩
   ·dsimp only at hi ⊢
    have hm:=(hb.2 i (by omega)).2 hi
    refine ⟨?_,h1 _ hm⟩
    obtain ⟨g1,g2⟩:=hv.pg i hi
    rw [g1]
    unfold clipP
    congr 1
    have fd:=(fam_p hx (k:=i) (by omega)).died
    have fb:=(fam_p hx (k:=i) (by omega)).born
    rcases g2 with ⟨g2,g3⟩ | ⟨g2,g3⟩
    ·have:(x.people.getD i default).died≤y:=h1 _ g2
     rw [g3,decide_eq_false (by omega)];rfl
    ·rw [g3]
     by_cases c0:0≤(x.people.getD i default).died
     ·rcases hin _ (dEv_mem (x:=x) (i:=i) (by omega) c0) with q | q
      ·exact absurd q.1 g2
      ·have q2:y<(x.people.getD i default).died:=q.2
       rw [decide_eq_true q2];rfl
     ·have:(x.people.getD i default).died=-1:=by omega
      rw [this]
      cases decide (y < -1)<;>rfl
   ·dsimp only at g1
    rcases hin _ (bEv_mem g2) with q | q
    ·have:=(hb.2 i g2).1 q.1;omega
    ·exact q.2
   ·dsimp only at hi ⊢
    have hm:=(hw.2 i (by omega)).2 hi
    refine ⟨?_,h1 _ hm⟩
    obtain ⟨g1,g2⟩:=hv.ug i hi
    rw [g1]
    unfold clipU
    congr 1
    have ft:=(fam_u hx (k:=i) (by omega)).to
    have ff:=(fam_u hx (k:=i) (by omega)).from0
    have fm:=(fam_u hx (k:=i) (by omega)).man
    have fb:=(fam_p hx (k:=(x.unions.getD i default).man.toNat) (by omega)).born
    rcases g2 with ⟨g2,g3⟩ | ⟨g2,g3⟩
    ·have:(x.unions.getD i default).to≤y:=h1 _ g2
     rw [g3,decide_eq_false (by omega)];rfl
    ·rw [g3]
     by_cases c0:0≤(x.unions.getD i default).to
     ·rcases hin _ (pEv_mem (x:=x) (i:=i) (by omega) c0) with q | q
      ·exact absurd q.1 g2
      ·have q2:y<(x.unions.getD i default).to:=q.2
       rw [decide_eq_true q2];rfl
     ·have:(x.unions.getD i default).to=-1:=by omega
      rw [this]
      cases decide (y < -1)<;>rfl
   ·dsimp only at g1
    rcases hin _ (uEv_mem g2) with q | q
    ·have:=(hw.2 i g2).1 q.1;omega
    ·exact q.2
  rw [hE.fam hx]
  simp only [Bool.not_true,cond_false]
  have hK:=known_early hx hy y
  rw [early_two (Int.le_refl y) hE (early_self hE) hK]
structure EvN (n:Nat) (l:List Event):Prop where
 len:l.length≤n
 nm:∀ e∈l,e.name.length≤1048576
theorem EvN.nil:EvN 0 []:=⟨Nat.le_refl _,fun e he=>absurd he List.not_mem_nil⟩
theorem EvN.mono {n m:Nat} {l:List Event} (h:EvN n l) (hm:n≤m):EvN m l:=⟨Nat.le_trans h.1 hm,h.2⟩
theorem EvN.snoc {n:Nat} {l:List Event} (h:EvN n l) {e:Event} (he:e.name.length≤1048576):EvN (n+1) (l++[e]):=by
 refine ⟨by rw [List.length_append,List.length_singleton];have:=h.1;omega,fun a ha=>?_⟩
 rcases List.mem_append.1 ha with ha | ha
 ·exact h.2 a ha
 ·rw [List.mem_singleton.1 ha];exact he
theorem events_val2 {f:Family} (hf:specIsFamily f=true) (hy:Years f):implEvents f=l11Events f:=by
 rw [events_eq]
 unfold specEvents
 rw [hf,sorted_self hf hy];rfl
theorem events_nm {f:Family} (hf:specIsFamily f=true) (hy:Years f):EvN 200 (implEvents f):=by
 rw [events_val2 hf hy]
 refine ⟨by rw [(sortedEv_perm f).length_eq];exact evList_len hf,fun e he=>?_⟩
 have hn:=fam_names hf
 rcases evList_mem ((sortedEv_perm f).mem_iff.1 he) with ⟨i,hi,rfl⟩ | ⟨i,hi,rfl⟩ | ⟨i,hi,_,rfl⟩ | ⟨i,hi,_,rfl⟩
 ·exact hn _ (getD_mem hi)
 ·exact Nat.zero_le _
 ·exact Nat.zero_le _
 ·exact Nat.zero_le _
theorem build_eqf {l:List Event} {n:Nat} (h:EvN n l) (hn:n≤1000):(implBuild l).1.people.length≤1000∧(implBuild l).1.unions.length≤1000:=by
 rw [build_eq]
 have:=specBuild_rng l
 have:=h.1
 omega
theorem known_two {f:Family} (hf:specIsFamily f=true) (hy:Years f) {y z:Int} (h:y≤z):implKnown (implKnown f z) y=implKnown f y:=by
 have e1:=known_early hf hy z
 have e2:=known_early (e1.fam hf) (e1.years hy) y
 rw [known_eq,known_eq,known_eq]
 exact early_two h e1 e2 (known_early hf hy y)
theorem filt_getE {α:Type} [Inhabited α] (p:α→Bool) (l:List α):∀ i:Nat,i<l.length→(l.take (i+1)).filter p=(l.take i).filter p++(bif p (l.getD i default) then [l.getD i default] else []):=by
 intro i hi
 rw [take_snoc l default hi,List.filter_append,List.filter_cons]
 cases p (l.getD i default)<;>simp
end Go.Proofs.Ytepefimocflfkaa
