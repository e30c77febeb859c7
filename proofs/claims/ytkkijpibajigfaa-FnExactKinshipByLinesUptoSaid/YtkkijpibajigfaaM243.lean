import Derived.Test.YtkkijpibajigfaaVN2
set_option maxHeartbeats 4000000
set_option linter.unusedSimpArgs false
set_option linter.unusedVariables false
namespace Go.Proofs.Ytkkijpibajigfaa
open Go Go.Lite Go.Proofs
inductive Ln (f : Family) (p : Int) : Int → List Int → Prop
  | one:Ln f p p [p]
  | cons {q x:Int} {l:List Int} (h:q ∈ l1Parents f x) (t:Ln f p x l):Ln f p q (q :: l)
theorem Ln.snoc {f:Family} {q x p:Int} {l:List Int} (h:Ln f x q l) (hx:x ∈ l1Parents f p):Ln f p q (l++[p]):=by
 induction h with
 | one=>exact .cons hx .one
 | cons h _ ih=>exact .cons h ih
theorem Ln.last {f:Family} {q p:Int} {l:List Int} (h:Ln f p q l):(q=p∧l=[p]) ∨ ∃ x l',l=l'++[p]∧x ∈ l1Parents f p∧Ln f x q l':=by
 induction h with
 | one=>exact .inl ⟨rfl,rfl⟩
 | @cons q c l h t ih =>
  rcases ih with ⟨e1,e2⟩ | ⟨y,l',e1,hy,h'⟩
  ·subst e1;subst e2;exact .inr ⟨q,[q],rfl,h,.one⟩
  ·exact .inr ⟨y,q :: l',by rw [e1];rfl,hy,.cons h h'⟩
theorem Ln.above {f:Family} {q p:Int} {l:List Int} (h:Ln f p q l):Above f p q:=by
 induction h with
 | one=>exact Above.self _ _
 | cons h _ ih=>obtain ⟨n,hn⟩:=ih;exact ⟨n+1,.step hn h⟩
theorem Ln.head {f:Family} {q p:Int} {l:List Int} (h:Ln f p q l):∃ t,l=q :: t:=by
 cases h with
 | one=>exact ⟨[],rfl⟩
 | cons _ _=>exact ⟨_,rfl⟩
theorem Ln.end0 {f:Family} {q p:Int} {l:List Int} (h:Ln f p q l):l.getLast?=some p:=by
 rcases h.last with ⟨_,e⟩ | ⟨x,l',e,_,_⟩
 ·rw [e];rfl
 ·rw [e];simp
theorem par_mem {f:Family} {x r:Int}:r ∈ l1Parents f x ↔ 0≤r∧(r=(f.people.getD x.toNat default).father ∨ r=(f.people.getD x.toNat default).mother):=by
 unfold l1Parents
 generalize (f.people.getD x.toNat default).father=a
 generalize (f.people.getD x.toNat default).mother=b
 cases h1:decide (0≤a) <;> cases h2:decide (0≤b) <;> simp only [cond_true,cond_false] <;> simp only [decide_eq_true_eq,decide_eq_false_iff_not] at h1 h2 <;> simp <;> omega
theorem par_nodup {f:Family} (hf:specIsFamily f=true) {x:Int} (hx:0≤x∧x<f.people.length):(l1Parents f x).Nodup:=by
 have hp:=fam_p hf (k:=x.toNat) (by omega)
 have h1:=hp.fa;have h2:=hp.mo
 have hne:0≤(f.people.getD x.toNat default).father→0≤(f.people.getD x.toNat default).mother→(f.people.getD x.toNat default).father ≠ (f.people.getD x.toNat default).mother:=fun c1 c2 e=>by
  rcases h1 with h1 | ⟨_,_,s1,_⟩
  ·omega
  ·rcases h2 with h2 | ⟨_,_,s2,_⟩
   ·omega
   ·rw [e,s2] at s1;omega
 unfold l1Parents
 revert hne
 generalize (f.people.getD x.toNat default).father=a
 generalize (f.people.getD x.toNat default).mother=b
 intro hne
 cases c1:decide (0≤a) <;> cases c2:decide (0≤b) <;> simp only [cond_true,cond_false] <;> simp
 have c1:=of_decide_eq_true c1;have c2:=of_decide_eq_true c2
 exact hne c1 c2
theorem Ln.rng {f:Family} (hf:specIsFamily f=true) {q p:Int} {l:List Int} (h:Ln f p q l) (hp:0≤p∧p<f.people.length):0≤q∧q<f.people.length∧q≤p:=h.above.rng hf hp
theorem nodup_snoc_map {L:List (List Int)} (p:Int) (h:L.Nodup):(L.map fun l=>l++[p]).Nodup:=by
 induction L with
 | nil=>exact List.nodup_nil
 | cons x L ih =>
  have h:=List.nodup_cons.1 h
  refine List.nodup_cons.2 ⟨fun hm=>?_,ih h.2⟩
  obtain ⟨y,hy,e⟩:=List.mem_map.1 hm
  have:y=x:=List.append_cancel_right e
  rw [this] at hy;exact h.1 hy
def LOk (f:Family) (q p:Int) (r:List (List Int)×Bool):Prop :=
 (r.2=true→(∀ l,l ∈ r.1 ↔ Ln f p q l)∧r.1.Nodup∧Srt lessInts 0 r.1.length r.1)∧(r.2=false→∃ W:List (List Int),W.Nodup∧100<W.length∧∀ l ∈ W,Ln f p q l)
theorem srt_small {v:List (List Int)} (h:v.length≤1):Srt lessInts 0 v.length v:=fun i j h1 h2 h3=>by omega
theorem lines_ok {f : Family} (hf : specIsFamily f = true) (q : Int) : ∀ (m : Nat) (p : Int), p.toNat < m → 0 ≤ p ∧ p < f.people.length → LOk f q p (linesDown_r m f q p)
  | 0,_,h,_=>absurd h (Nat.not_lt_zero _)
  | m+1,p,hm,hj=>by
    have hpar:=isFamily_par f hf
    rw [linesDown_r]
    refine cond_both (p:=LOk f q p) (fun c=>?_) (fun c=>?_)
    · have c:=of_decide_eq_true c
      subst c
      refine ⟨fun _=>⟨fun l=>?_,by simp,srt_small (by simp)⟩,fun h=>(by cases h)⟩
      rw [List.mem_singleton]
      constructor
      · rintro rfl;exact .one
      · intro h
        rcases h.last with ⟨_,e⟩ | ⟨x,l',e,hx,h'⟩
        · exact e
        · have h1:=(par_mem.1 hx)
          have h2:=hpar q.toNat (by omega)
          have h3:=h'.rng hf (p:=x) (by omega)
          omega
    · have c:=of_decide_eq_false c
      rw [parentsOf_eq]
      have hnd:=par_nodup hf hj
      have hin:∀ i:Nat,i<(l1Parents f p).length→0≤(l1Parents f p).getD i default∧(l1Parents f p).getD i default<p:=fun i hi=>by
        have h1:=par_mem.1 (getD_mem (d:=default) hi)
        have h2:=hpar p.toNat (by omega)
        omega
      refine loopN_to (fun i (v:List (List Int))=>v.Nodup∧v.length≤100∧∀ l,l ∈ v ↔ ∃ x ∈ (l1Parents f p).take i,∃ l',l=l'++[p]∧Ln f x q l') (LOk f q p) ⟨List.nodup_nil,Nat.zero_le _,fun l=>⟨fun h=>absurd h (by simp),fun ⟨x,hx,_⟩=>absurd hx (by simp)⟩⟩ (fun i v nx hi hv hn=>?_) (fun v hv=>?_)
      · obtain ⟨v1,v2,v3⟩:=hv
        have hb:=hin i hi
        have hxm:=getD_mem (d:=default) hi
        have hget:(l1Parents f p)[i]?=some ((l1Parents f p).getD i default):=by rw [List.getElem?_eq_getElem hi,List.getD_eq_getElem?_getD,List.getElem?_eq_getElem hi];rfl
        have htake:(l1Parents f p).take (i+1)=(l1Parents f p).take i++[(l1Parents f p).getD i default]:=by rw [List.take_add_one,hget];rfl
        have hnot:(l1Parents f p).getD i default ∉ (l1Parents f p).take i:=fun hmem=>by
          have:((l1Parents f p).take (i+1)).Nodup:=List.Nodup.sublist (List.take_sublist _ _) hnd
          rw [htake,List.nodup_append] at this
          exact this.2.2 _ hmem _ (by simp) rfl
        have ih:=lines_ok hf q m ((l1Parents f p).getD i default) (by omega) (by omega)
        generalize (l1Parents f p).getD i default=x at hb hxm htake hnot ih
        obtain ⟨ih1,ih2⟩:=ih
        cases hr:(linesDown_r m f q x).2 with
        | false =>
          obtain ⟨W,w1,w2,w3⟩:=ih2 hr
          refine ⟨fun h=>(by cases h),fun _=>⟨W.map fun l=>l++[p],nodup_snoc_map p w1,by rw [List.length_map];exact w2,fun l hl=>?_⟩⟩
          obtain ⟨l',hl',rfl⟩:=List.mem_map.1 hl
          exact (w3 l' hl').snoc hxm
        | true =>
          obtain ⟨i1,i2,_⟩:=ih1 hr
          simp only [Bool.not_true,cond_false]
          generalize (linesDown_r m f q x).1=L at i1 i2
          refine loopN_to (fun j (w:List (List Int))=>w=v++(L.take j).map fun l=>l++[p]) (LOk f q p) (by simp) (fun j w next hj hw hn2=>hn2 _ ?_) (fun w hw=>?_)
          · have e:L.take (j+1)=L.take j++[L.getD j []]:=by
              rw [List.take_add_one,List.getElem?_eq_getElem hj,List.getD_eq_getElem?_getD,List.getElem?_eq_getElem hj];rfl
            rw [hw,e,List.map_append,List.append_assoc];rfl
          · rw [List.take_length] at hw
            have hwn:w.Nodup:=by
              rw [hw,List.nodup_append]
              refine ⟨v1,nodup_snoc_map p i2,fun a ha b hb' hab=>?_⟩
              obtain ⟨l',hl',e⟩:=List.mem_map.1 hb'
              obtain ⟨y,hy,l2,e2,h2⟩:=(v3 a).1 ha
              have e3:l2=l':=List.append_cancel_right (by rw [← e2,hab,← e])
              have k1:=h2.end0
              have k2:=((i1 l').1 hl').end0
              rw [e3,k2] at k1
              have:x=y:=Option.some.inj k1
              exact hnot (by rw [this];exact hy)
            have hwm:∀ l,l ∈ w ↔ ∃ y ∈ (l1Parents f p).take (i+1),∃ l',l=l'++[p]∧Ln f y q l':=fun l=>by
              rw [hw,List.mem_append,v3,htake]
              constructor
              · rintro (⟨y,hy,h⟩ | h)
                · exact ⟨y,List.mem_append_left _ hy,h⟩
                · obtain ⟨l',hl',e⟩:=List.mem_map.1 h
                  exact ⟨x,List.mem_append_right _ (by simp),l',e.symm,(i1 l').1 hl'⟩
              · rintro ⟨y,hy,l',e,h⟩
                rcases List.mem_append.1 hy with hy | hy
                · exact .inl ⟨y,hy,l',e,h⟩
                · rw [List.mem_singleton] at hy
                  subst hy
                  exact .inr (List.mem_map.2 ⟨l',(i1 l').2 h,e.symm⟩)
            refine cond_both (p:=LOk f q p) (fun c2=>?_) (fun c2=>hn _ ⟨hwn,by have:=of_decide_eq_false c2;omega,hwm⟩)
            refine ⟨fun h=>(by cases h),fun _=>⟨w,hwn,by have:=of_decide_eq_true c2;omega,fun l hl=>?_⟩⟩
            obtain ⟨y,hy,l',rfl,h⟩:=(hwm l).1 hl
            exact h.snoc (List.mem_of_mem_take hy)
      · obtain ⟨v1,v2,v3⟩:=hv
        rw [List.take_length] at v3
        have hm:∀ l,l ∈ v ↔ Ln f p q l:=fun l=>by
          rw [v3]
          constructor
          · rintro ⟨x,hx,l',rfl,h⟩;exact h.snoc hx
          · intro h
            rcases h.last with ⟨e,_⟩ | ⟨x,l',e,hx,h'⟩
            · exact absurd e c
            · exact ⟨x,hx,l',e,h'⟩
        refine cond_both (p:=LOk f q p) (fun c2=>?_) (fun c2=>?_)
        · have hs:=pdqL_sorted (SrtL.mk v) (bitsLen (v.length:Int)) (show v.length≤255 by omega)
          have hpm:=sliceL_perm v (by omega)
          have hs1:Srt lessInts 0 (sliceL (SrtL.mk v) ()).length (sliceL (SrtL.mk v) ()):=by rw [hpm.length_eq];exact hs.1
          exact ⟨fun _=>⟨fun l=>(hpm.mem_iff).trans (hm l),hpm.nodup_iff.2 v1,hs1⟩,fun h=>(by cases h)⟩
        · have c2:=of_decide_eq_false c2
          exact ⟨fun _=>⟨hm,v1,srt_small (v:=v) (by omega)⟩,fun h=>(by cases h)⟩
def L8 (f:Family) (q p k:Int) (S:List (List Int)):Prop :=
 (∀ l ∈ S,Ln f p q l)∧S.Pairwise (fun a b=>lexL a b=true)∧((S.length:Int)≤k→∀ l,Ln f p q l→l ∈ S)
theorem lexL_cons (x:Int) (a b:List Int):lexL (x :: a) (x :: b)=lexL a b:=by rw [lexL,decide_eq_true rfl];rfl
theorem lexL_lt {x y:Int} (h:x<y) (a b:List Int):lexL (x :: a) (y :: b)=true:=by
 rw [lexL,decide_eq_false (by omega:¬ x=y),decide_eq_true h];rfl
theorem pw_cons {L:List (List Int)} (q:Int) (h:L.Pairwise fun a b=>lexL a b=true):(L.map fun t=>q :: t).Pairwise fun a b=>lexL a b=true:=by
 rw [List.pairwise_map]
 exact h.imp fun {a b} h=>by rw [lexL_cons];exact h
theorem Ln.self {f:Family} (hf:specIsFamily f=true) {p:Int} (hp:0≤p∧p<f.people.length) {l:List Int} (h:Ln f p p l):l=[p]:=by
 rcases h.last with ⟨_,e⟩ | ⟨x,l',e,hx,h'⟩
 ·exact e
 ·have h1:=(par_mem.1 hx)
  have h2:=isFamily_par f hf p.toNat (by omega)
  have h3:=h'.rng hf (p:=x) (by omega)
  omega
theorem l8_ok {f : Family} (hf : specIsFamily f = true) {p k : Int} (hp : 0 ≤ p ∧ p < f.people.length) : ∀ (m : Nat) (q : Int), ((f.people.length : Int) - q).toNat < m → 0 ≤ q ∧ q < f.people.length → L8 f q p k (l8Lines_r m f q p k)
  | 0,_,h,_=>absurd h (Nat.not_lt_zero _)
  | m+1,q,hm,hq=>by
    have hpar:=isFamily_par f hf
    rw [l8Lines_r]
    refine cond_both (p:=L8 f q p k) (fun c=>?_) (fun c=>?_)
    · have c:=of_decide_eq_true c
      subst c
      exact ⟨fun l hl=>by rw [List.mem_singleton.1 hl];exact .one,List.pairwise_singleton _ _,fun _ l hl=>by rw [hl.self hf hp];exact List.mem_singleton.2 rfl⟩
    · have c:=of_decide_eq_false c
      refine loopN_to (fun i (v:List (List Int))=>(∀ l ∈ v,∃ x:Nat,x<i∧q ∈ l1Parents f x∧∃ t,l=q :: t∧Ln f p x t)∧v.Pairwise (fun a b=>lexL a b=true)∧((v.length:Int)≤k→∀ x:Nat,x<i→q ∈ l1Parents f x→∀ t,Ln f p x t→q :: t ∈ v)) (L8 f q p k) ⟨fun l hl=>(by cases hl),List.Pairwise.nil,fun _ x hx=>absurd hx (Nat.not_lt_zero _)⟩ (fun i v nx hi hv hn=>?_) (fun v hv=>?_)
      · obtain ⟨v1,v2,v3⟩:=hv
        refine cond_both (p:=L8 f q p k) (fun g=>hn _ ⟨fun l hl=>?_,v2,fun hk x hx hqx t ht=>?_⟩) (fun g=>?_)
        · obtain ⟨x,h1,h2⟩:=v1 l hl;exact ⟨x,by omega,h2⟩
        · rcases Nat.lt_or_ge x i with h | h
          · exact v3 hk x h hqx t ht
          · have e:x=i:=by omega
            subst e
            have h1:=par_mem.1 hqx
            have h2:=(above_iff hf hp (q:=((x:Nat):Int)) ⟨by omega,by omega⟩).2 ht.above
            simp only [Bool.or_eq_true,Bool.and_eq_true,Bool.not_eq_true',decide_eq_false_iff_not,decide_eq_true_eq,Int.toNat_natCast] at g h1 h2
            omega
        · have hqx:q ∈ l1Parents f ((i:Nat):Int):=by
            rw [or_f_iff,and_f_iff] at g
            have g:=g.1
            simp only [Bool.not_eq_true',decide_eq_false_iff_not,Bool.not_eq_false',decide_eq_true_eq] at g
            refine par_mem.2 ⟨hq.1,?_⟩
            rw [Int.toNat_natCast]
            omega
          have hqi:q<i:=by
            have h1:=par_mem.1 hqx
            have h2:=hpar i hi
            rw [Int.toNat_natCast] at h1
            omega
          obtain ⟨i1,i2,i3⟩:=l8_ok hf hp m ((i:Nat):Int) (by omega) (by omega)
          generalize l8Lines_r m f ((i:Nat):Int) p k=L at i1 i2 i3
          refine loopN_to (fun j (w:List (List Int))=>∃ j',j'≤j∧w=v++(L.take j').map (fun t=>q :: t)∧((w.length:Int)≤k→j'=j)) (L8 f q p k) ⟨0,Nat.le_refl _,by simp,fun _=>rfl⟩ (fun j w next hj hw hn2=>?_) (fun w hw=>?_)
          · obtain ⟨j',h1,h2,h3⟩:=hw
            refine cond_both (p:=L8 f q p k) (fun c2=>hn2 _ ?_) (fun c2=>hn2 _ ?_)
            · have e:=h3 (of_decide_eq_true c2)
              subst e
              have e:L.take (j'+1)=L.take j'++[L.getD j' []]:=by
                rw [List.take_add_one,List.getElem?_eq_getElem hj,List.getD_eq_getElem?_getD,List.getElem?_eq_getElem hj];rfl
              refine ⟨j'+1,Nat.le_refl _,?_,fun _=>rfl⟩
              rw [h2,e,List.map_append,List.append_assoc];rfl
            · have c2:=of_decide_eq_false c2
              exact ⟨j',by omega,h2,fun h=>absurd h c2⟩
          · obtain ⟨j',h1,h2,h3⟩:=hw
            refine hn _ ⟨fun l hl=>?_,?_,fun hk x hx hqx' t ht=>?_⟩
            · rw [h2] at hl
              rcases List.mem_append.1 hl with hl | hl
              · obtain ⟨x,h1,h2⟩:=v1 l hl;exact ⟨x,by omega,h2⟩
              · obtain ⟨t,ht,rfl⟩:=List.mem_map.1 hl
                exact ⟨i,by omega,hqx,t,rfl,i1 t (List.mem_of_mem_take ht)⟩
            · rw [h2,List.pairwise_append]
              refine ⟨v2,pw_cons q (List.Pairwise.sublist (List.take_sublist _ _) i2),fun a ha b hb=>?_⟩
              obtain ⟨x,hx,_,t,rfl,ht⟩:=v1 a ha
              obtain ⟨t2,ht2,rfl⟩:=List.mem_map.1 hb
              obtain ⟨r1,e1⟩:=ht.head
              obtain ⟨r2,e2⟩:=(i1 t2 (List.mem_of_mem_take ht2)).head
              rw [lexL_cons,e1,e2]
              exact lexL_lt (by omega) _ _
            · have e:=h3 hk
              rw [e,List.take_length] at h2
              have hlen:w.length=v.length+L.length:=by rw [h2,List.length_append,List.length_map]
              rw [h2]
              rcases Nat.lt_or_ge x i with h | h
              · exact List.mem_append_left _ (v3 (by omega) x h hqx' t ht)
              · have e:x=i:=by omega
                subst e
                exact List.mem_append_right _ (List.mem_map.2 ⟨t,i3 (by omega) t ht,rfl⟩)
      · obtain ⟨v1,v2,v3⟩:=hv
        refine ⟨fun l hl=>?_,v2,fun hk l hl=>?_⟩
        · obtain ⟨x,_,h2,t,rfl,ht⟩:=v1 l hl;exact .cons h2 ht
        · cases hl with
          | one=>exact absurd rfl c
          | @cons _ x t h ht =>
            have hr:=ht.rng hf hp
            have e:((x.toNat:Nat):Int)=x:=by omega
            exact v3 hk x.toNat (by omega) (by rw [e];exact h) t (by rw [e];exact ht)
theorem hasD {x:Family} {p q:Int} (h:((!l1Has x p) || (!l1Has x q))=false):specIsFamily x=true∧(0≤p∧p<x.people.length)∧(0≤q∧q<x.people.length):=by
 simp only [or_f_iff,not_f_iff,l1Has_iff] at h
 exact ⟨h.1.2,h.1.1,h.2.1⟩
theorem pw_nodup {l:List (List Int)} (h:l.Pairwise fun a b=>lexL a b=true):l.Nodup :=
 List.Pairwise.imp (fun {a b} h e=>by rw [e,lexL_irr] at h;cases h) h
theorem srt_pw {l:List (List Int)} (hs:Srt lessInts 0 l.length l) (hn:l.Nodup):l.Pairwise fun a b=>lexL a b=true:=by
 rw [List.pairwise_iff_getElem]
 intro i j hi hj hij
 have h1:=hs (i:Int) (j:Int) (by omega) (by omega) (by omega)
 rw [lessInts_lex,gi_get l (j:Int) (by omega) (by omega),gi_get l (i:Int) (by omega) (by omega)] at h1
 simp only [Int.toNat_natCast] at h1
 cases h2:lexL l[i] l[j] with
 | true=>rfl
 | false =>
  exact absurd (lexL_eq _ _ h2 h1) (fun e=>by have:=(List.pairwise_iff_getElem.1 hn) i j hi hj hij;exact this e)
theorem pw_eq {l m:List (List Int)} (hl:l.Pairwise fun a b=>lexL a b=true) (hm:m.Pairwise fun a b=>lexL a b=true) (h:∀ y,y ∈ l ↔ y ∈ m):l=m :=
 List.Perm.eq_of_pairwise (fun a b _ _ h1 h2=>by rw [lexL_asym a b h1] at h2;cases h2) hl hm ((List.perm_ext_iff_of_nodup (pw_nodup hl) (pw_nodup hm)).2 h)
theorem nodup_len {l:List (List Int)}:∀ {m:List (List Int)},l.Nodup→(∀ y ∈ l,y ∈ m)→l.length≤m.length:=by
 induction l with
 | nil=>intro m _ _;exact Nat.zero_le _
 | cons x l ih =>
  intro m hl h
  have hl:=List.nodup_cons.1 hl
  have hx:=h x (List.mem_cons_self ..)
  have h1:=List.length_erase_of_mem hx
  have h2:=List.length_pos_of_mem hx
  have h3:=ih (m:=m.erase x) hl.2 (fun y hy=>(List.mem_erase_of_ne (fun e=>hl.1 (by rw [← e];exact hy))).2 (h y (List.mem_cons_of_mem _ hy)))
  rw [List.length_cons]
  omega
def C27 (R:(List (List Int))×Bool):LV×List (Nat×BC):=(.tup [.own 0,.bool R.2],[(0,.nest true 1 R.1.length (nrOf (cInt .i64) R.1))])
def specDescent (x0:Family) (x1:Int) (x2:Int):(List (List Int))×Bool:=bif ((!(l1Has x0 x1)) || (!(l1Has x0 x2))) then (([]:List (List Int)),false) else (bif (decide (100<(((l8Lines x0 x1 x2 100).length:Nat):Int))) then (([]:List (List Int)),false) else (l8Lines x0 x1 x2 100,true))
def A27 (x0:Family) (x1:Int) (x2:Int):Ann:=r0 1 [1,2,3,6,7] [3] (.reg 1 [] [(2,k60 x0 x1),(7,cg (!(!(l1Has x0 x1))) (k60 x0 x2))] [1,2,3,6,7,18] [3] [!(!(l1Has x0 x1)),!(l1Has x0 x1)] [] [] [0,1,1,4,1,6] (cn ((!(l1Has x0 x1)) || (!(l1Has x0 x2))) (r0 1 [1,2,3,6,7] [3] (rt [(0,none)] (C27 (([]:List (List Int)),false)))) (.reg 1 [] [(3,k61 x0 x1 x2 100)] [6,7,8] [1022] [] [] [] [0] (r0 1 [6,7,8,25] [1022] (cn (decide (100<(((l8Lines x0 x1 x2 100).length:Nat):Int))) (r0 1 [6,7,8] [1022] (rt [(0,none)] (C27 (([]:List (List Int)),false)))) (r0 1 [6,7] [1022] (rt [(0,some 1022)] (C27 (l8Lines x0 x1 x2 100,true)))))))))
theorem ok_spec_DescentLines (x0:Family) (x1:Int) (x2:Int) (hx:x0.people.length≤1048576) (hu:x0.unions.length≤1048576) (hn:∀ p ∈ x0.people,p.name.length≤1048576):FnT Try.prog 27 [.agg (cFamily false x0),.int .i64 x1,.int .i64 x2] (C27 (specDescent x0 x1 x2)):=by
 have aux:∀ R,specDescent x0 x1 x2=R→slim (C27 R) (A27 x0 x1 x2) []:=by
  intro R hR
  refine rg trivial ?_
  refine rg ⟨⟨by with_reducible assumption,by with_reducible assumption,by with_reducible assumption⟩,fun hg0=>⟨by with_reducible assumption,by with_reducible assumption,by with_reducible assumption⟩,trivial⟩ ?_
  revert hR;refine cd (fun hc1 hR=>?_) fun hc1 hR=>?_
  ·
    refine rg trivial ?_
    exact congrArg C27 hR
  ·
    refine rg ⟨⟨by (have h9:=hasD hc1;have h8:=fam_n h9.1;omega),by (have h9:=hasD hc1;have h8:=fam_n h9.1;omega),by (have h9:=hasD hc1;have h8:=fam_n h9.1;omega),by (with_reducible exact isFamily_par _ (hasD hc1).1),by (intros;omega)⟩,trivial⟩ ?_
    refine rg trivial ?_
    revert hR;refine cd (fun hc2 hR=>?_) fun hc2 hR=>?_
    ·
      refine rg trivial ?_
      exact congrArg C27 hR
    ·
      refine rg trivial ?_
      exact congrArg C27 hR
 exact Fn.go 27 Try.func27 (by kernel_rfl) (by kernel_rfl) (by simp [C27,FrsN,nrOf,Frs,FrsL,FrsB,rowOf,cInt,cBool,cStr,cSl,FrsL_app,cPerson,cUnion,cFamily,cDyad]) (A27 x0 x1 x2) (by kernel_rfl) (aux _ rfl)
def k27 (x0:Family) (x1:Int) (x2:Int):Cl:=(hres (C27 (specDescent x0 x1 x2)),k3 (ok_spec_DescentLines x0 x1 x2))
def implDescent (x0:Family) (x1:Int) (x2:Int):(List (List Int))×Bool:=bif (!(implHas x0 [x1,x2])) then (([]:List (List Int)),false) else ((linesDown x0 x1 x2).1,(linesDown x0 x1 x2).2)
theorem lines_nil (f : Family) (q : Int) : ∀ (m : Nat) (p : Int), (linesDown_r m f q p).2 = false → (linesDown_r m f q p).1 = []
  | 0,_,_=>rfl
  | m+1,p,h=>by
    revert h
    rw [linesDown_r]
    refine cond_both (p:=fun (r:List (List Int)×Bool)=>r.2=false→r.1=[]) (fun _ h=>(by cases h)) (fun _=>?_)
    refine loopN_to (fun _ (_:List (List Int))=>True) (fun (r:List (List Int)×Bool)=>r.2=false→r.1=[]) trivial (fun i v nx hi _ hn=>?_) (fun v _=>?_)
    · refine cond_both (p:=fun (r:List (List Int)×Bool)=>r.2=false→r.1=[]) (fun _ _=>rfl) (fun _=>?_)
      refine loopN_to (fun _ (_:List (List Int))=>True) (fun (r:List (List Int)×Bool)=>r.2=false→r.1=[]) trivial (fun j w next _ _ hn2=>hn2 _ trivial) (fun w _=>?_)
      exact cond_both (p:=fun (r:List (List Int)×Bool)=>r.2=false→r.1=[]) (fun _ _=>rfl) (fun _=>hn _ trivial)
    · exact cond_both (p:=fun (r:List (List Int)×Bool)=>r.2=false→r.1=[]) (fun _ h=>(by cases h)) (fun _ h=>(by cases h))
theorem descent_eq (x:Family) (q p:Int):implDescent x q p=specDescent x q p:=by
 have hh:implHas x [q,p]=(l1Has x q && l1Has x p):=by
  rw [Bool.eq_iff_iff,Bool.and_eq_true,implHas2,l1Has_iff,l1Has_iff]
  exact ⟨fun ⟨a,b,c⟩=>⟨⟨b,a⟩,c,a⟩,fun ⟨⟨b,a⟩,c,_⟩=>⟨a,b,c⟩⟩
 unfold implDescent specDescent
 rw [hh,← Bool.not_and]
 cases c:(l1Has x q && l1Has x p) with
 | false=>rfl
 | true =>
  have c2:((!l1Has x q) || (!l1Has x p))=false:=by rw [← Bool.not_and,c];rfl
  obtain ⟨hf,hq,hp⟩:=hasD c2
  have hn:=(fam_n hf).1
  rw [Bool.not_true,cond_false,cond_false]
  obtain ⟨l1,l2⟩:=lines_ok hf q 100 p (by omega) hp
  have l3:=lines_nil x q 100 p
  have l4:=(lines_bd 100 x q p (isFamily_par _ hf) hp).1
  obtain ⟨s1,s2,s3⟩:=l8_ok hf (k:=100) hp 100 q (by omega) hq
  unfold linesDown l8Lines
  generalize linesDown_r 100 x q p=r at l1 l2 l3 l4
  generalize l8Lines_r 100 x q p 100=S at s1 s2 s3
  obtain ⟨r1,r2⟩:=r
  cases r2 with
  | true =>
   obtain ⟨k1,k2,k3⟩:=l1 rfl
   have hle:=nodup_len (pw_nodup s2) (fun y hy=>(k1 y).2 (s1 y hy))
   have e:S=r1:=pw_eq s2 (srt_pw k3 k2) (fun y=>⟨fun hy=>(k1 y).2 (s1 y hy),fun hy=>s3 (by dsimp only at hle l4;omega) y ((k1 y).1 hy)⟩)
   dsimp only at l4 ⊢
   rw [e,decide_eq_false (by omega:¬ (100:Int)<((r1.length:Nat):Int))]
   rfl
  | false =>
   obtain ⟨W,w1,w2,w3⟩:=l2 rfl
   have h0:=l3 rfl
   dsimp only at h0 ⊢
   rw [h0]
   have:100<S.length:=by
    rcases Nat.lt_or_ge 100 S.length with h | h
    ·exact h
    ·have:=nodup_len w1 (fun y hy=>s3 (by omega) y (w3 y hy))
     omega
   rw [decide_eq_true (by omega:(100:Int)<((S.length:Nat):Int))]
   rfl
theorem descent_bd (x:Family) (q p:Int):(implDescent x q p).1.length≤1000∧∀ y ∈ (implDescent x q p).1,y.length≤1000:=by
 rw [descent_eq]
 unfold specDescent
 refine cond_both (p:=fun (r:List (List Int)×Bool)=>r.1.length≤1000∧∀ y ∈ r.1,y.length≤1000) (fun _=>⟨Nat.zero_le _,fun y hy=>absurd hy List.not_mem_nil⟩) (fun c=>?_)
 obtain ⟨hf,hq,hp⟩:=hasD c
 have hn:=(fam_n hf).1
 have h7:=l8Lines_bd 100 x q p 100 (by decide) hq (isFamily_par _ hf)
 refine cond_both (p:=fun (r:List (List Int)×Bool)=>r.1.length≤1000∧∀ y ∈ r.1,y.length≤1000) (fun _=>⟨Nat.zero_le _,fun y hy=>absurd hy List.not_mem_nil⟩) (fun _=>⟨Nat.le_trans h7.1 (by decide),fun y hy=>Nat.le_trans (h7.2 y hy) (by omega)⟩)
end Go.Proofs.Ytkkijpibajigfaa
