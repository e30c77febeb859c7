import Derived.Test.YtkkijpibajigfaaM243
set_option maxHeartbeats 4000000
set_option linter.unusedSimpArgs false
set_option linter.unusedVariables false
namespace Go.Proofs.Ytkkijpibajigfaa
open Go Go.Lite Go.Proofs
def sumL {α : Type} (g : α → Int) : List α → Int
  | []=>0
  | x :: l=>g x+sumL g l
theorem sumL_app {α : Type} (g : α → Int) : ∀ (l m : List α), sumL g (l ++ m) = sumL g l + sumL g m
  | [],m=>by simp [sumL]
  | x :: l,m=>by rw [List.cons_append,sumL,sumL,sumL_app g l m,Int.add_assoc]
theorem sumL_congr {α : Type} {g h : α → Int} : ∀ {l : List α}, (∀ x ∈ l, g x = h x) → sumL g l = sumL h l
  | [],_=>rfl
  | x :: l,e=>by rw [sumL,sumL,e x (List.mem_cons_self ..),sumL_congr fun y hy=>e y (List.mem_cons_of_mem _ hy)]
theorem sumL_zero {α:Type} {g:α→Int} {l:List α} (h:∀ x ∈ l,g x=0):sumL g l=0:=by
 rw [sumL_congr h]
 clear h
 induction l with
 | nil=>rfl
 | cons x l ih=>rw [sumL,ih];rfl
theorem sumL_add {α : Type} (g h : α → Int) : ∀ l : List α, sumL (fun x => g x + h x) l = sumL g l + sumL h l
  | []=>rfl
  | x :: l=>by rw [sumL,sumL,sumL,sumL_add g h l];omega
theorem sumL_mul {α : Type} (k : Int) (g : α → Int) : ∀ l : List α, sumL (fun x => k * g x) l = k * sumL g l
  | []=>by rw [sumL,sumL,Int.mul_zero]
  | x :: l=>by rw [sumL,sumL,sumL_mul k g l,Int.mul_add]
theorem sumL_swap {α β : Type} (g : α → β → Int) (m : List β) : ∀ l : List α, sumL (fun x => sumL (g x) m) l = sumL (fun y => sumL (fun x => g x y) l) m
  | []=>(sumL_zero fun _ _=>rfl).symm
  | x :: l=>by rw [sumL,sumL_swap g m l,← sumL_add];rfl
theorem sumL_map {α β : Type} (g : β → Int) (f : α → β) : ∀ l : List α, sumL g (l.map f) = sumL (fun x => g (f x)) l
  | []=>rfl
  | x :: l=>by rw [List.map_cons,sumL,sumL,sumL_map g f l]
theorem sumL_flat {α β : Type} (g : β → Int) (f : α → List β) : ∀ l : List α, sumL g (l.flatMap f) = sumL (fun x => sumL g (f x)) l
  | []=>rfl
  | x :: l=>by rw [List.flatMap_cons,sumL_app,sumL,sumL_flat g f l]
theorem sumL_perm {α:Type} {g:α→Int} {l m:List α} (h:l.Perm m):sumL g l=sumL g m:=by
 induction h with
 | nil=>rfl
 | cons x _ ih=>rw [sumL,sumL,ih]
 | swap x y l=>rw [sumL,sumL,sumL,sumL];omega
 | trans _ _ h1 h2=>rw [h1,h2]
theorem sumL_nn {α : Type} {g : α → Int} : ∀ {l : List α}, (∀ x ∈ l, 0 ≤ g x) → 0 ≤ sumL g l
  | [],_=>Int.le_refl 0
  | x :: l,h=>by
    have h1:=h x (List.mem_cons_self ..)
    have h2:=sumL_nn fun y hy=>h y (List.mem_cons_of_mem _ hy)
    rw [sumL];omega
theorem sumL_snoc {α:Type} (g:α→Int) (l:List α) {i:Nat} (hi:i<l.length) (d:α):sumL g (l.take (i+1))=sumL g (l.take i)+g (l.getD i d):=by
 have e:l.take (i+1)=l.take i++[l.getD i d]:=by
  rw [List.take_add_one,List.getElem?_eq_getElem hi,List.getD_eq_getElem?_getD,List.getElem?_eq_getElem hi];rfl
 rw [e,sumL_app]
 simp [sumL]
theorem sumL_take {α:Type} {g:α→Int} {l:List α} (h:∀ x ∈ l,0≤g x) (i:Nat):sumL g (l.take i)≤sumL g l:=by
 have e:sumL g l=sumL g (l.take i)+sumL g (l.drop i):=by rw [← sumL_app,List.take_append_drop]
 have:=sumL_nn (g:=g) (l:=l.drop i) fun x hx=>h x (List.mem_of_mem_drop hx)
 omega
theorem sumL_filter {α : Type} (g : α → Int) (p : α → Bool) (h : ∀ x, p x = false → g x = 0) : ∀ l : List α, sumL g (l.filter p) = sumL g l
  | []=>rfl
  | x :: l=>by
    rw [List.filter_cons,sumL]
    cases c:p x with
    | true=>rw [if_pos rfl,sumL,sumL_filter g p h l]
    | false=>rw [if_neg (by simp),sumL_filter g p h l,h x c];omega
def allP (n:Nat):List Int:=(List.range n).map fun i=>((i:Nat):Int)
theorem allP_mem {n:Nat} {q:Int}:q ∈ allP n ↔ 0≤q∧q<n:=by
 unfold allP
 rw [List.mem_map]
 constructor
 ·rintro ⟨i,hi,rfl⟩;have:=List.mem_range.1 hi;omega
 ·intro h;exact ⟨q.toNat,List.mem_range.2 (by omega),by omega⟩
theorem allP_nodup (n:Nat):(allP n).Nodup:=by
 unfold allP
 exact List.Pairwise.map (R:=fun a b:Nat=>a ≠ b) _ (fun a b h e=>h (by omega)) List.nodup_range
theorem sumL_common {g:Int→Int} {n:Nat} {L:List Int} (hn:L.Nodup) (hb:∀ q ∈ L,0≤q∧q<n) (hz:∀ q,q ∉ L→g q=0):sumL g L=sumL g (allP n):=by
 rw [← sumL_filter g (fun q=>decide (q ∈ L)) (fun q h=>hz q (of_decide_eq_false h)) (allP n)]
 refine sumL_perm ((List.perm_ext_iff_of_nodup hn ((allP_nodup n).filter _)).2 fun q=>?_)
 rw [List.mem_filter,decide_eq_true_eq,allP_mem]
 exact ⟨fun h=>⟨hb q h,h⟩,fun h=>h.2⟩
def al (f : Family) (q : Int) : Nat → Int → List (List Int)
  | 0,_=>[]
  | m+1,p=>bif decide (q=p) then [[p]] else (l1Parents f p).flatMap fun x=>(al f q m x).map fun l=>l++[p]
theorem al_mem {f : Family} (hf : specIsFamily f = true) (q : Int) : ∀ (m : Nat) (p : Int), p.toNat < m → 0 ≤ p ∧ p < f.people.length → ∀ l, l ∈ al f q m p ↔ Ln f p q l
  | 0,_,h,_=>absurd h (Nat.not_lt_zero _)
  | m+1,p,hm,hp=>fun l=>by
    rw [al]
    cases c:decide (q=p) with
    | true =>
      have c:=of_decide_eq_true c
      subst c
      rw [cond_true,List.mem_singleton]
      exact ⟨fun e=>by rw [e];exact .one,fun h=>h.self hf hp⟩
    | false =>
      have c:=of_decide_eq_false c
      rw [cond_false,List.mem_flatMap]
      constructor
      · rintro ⟨x,hx,h⟩
        obtain ⟨l',hl',rfl⟩:=List.mem_map.1 h
        have h1:=par_mem.1 hx
        have h2:=isFamily_par f hf p.toNat (by omega)
        exact ((al_mem hf q m x (by omega) (by omega) l').1 hl').snoc hx
      · intro h
        rcases h.last with ⟨e,_⟩ | ⟨x,l',e,hx,h'⟩
        · exact absurd e c
        · have h1:=par_mem.1 hx
          have h2:=isFamily_par f hf p.toNat (by omega)
          exact ⟨x,hx,List.mem_map.2 ⟨l',(al_mem hf q m x (by omega) (by omega) l').2 h',e.symm⟩⟩
theorem nodup_flat {β : Type} {f : Int → List β} : ∀ {l : List Int}, l.Nodup → (∀ x ∈ l, (f x).Nodup) → (∀ x ∈ l, ∀ y ∈ l, ∀ z, z ∈ f x → z ∈ f y → x = y) → (l.flatMap f).Nodup
  | [],_,_,_=>List.nodup_nil
  | x :: l,hl,h1,h2=>by
    have hl:=List.nodup_cons.1 hl
    rw [List.flatMap_cons,List.nodup_append]
    refine ⟨h1 x (List.mem_cons_self ..),nodup_flat hl.2 (fun y hy=>h1 y (List.mem_cons_of_mem _ hy)) (fun a ha b hb=>h2 a (List.mem_cons_of_mem _ ha) b (List.mem_cons_of_mem _ hb)),fun a ha b hb e=>?_⟩
    obtain ⟨y,hy,hz⟩:=List.mem_flatMap.1 hb
    subst e
    have:=h2 x (List.mem_cons_self ..) y (List.mem_cons_of_mem _ hy) a ha hz
    subst this
    exact hl.1 hy
theorem al_nodup {f : Family} (hf : specIsFamily f = true) (q : Int) : ∀ (m : Nat) (p : Int), p.toNat < m → 0 ≤ p ∧ p < f.people.length → (al f q m p).Nodup
  | 0,_,h,_=>absurd h (Nat.not_lt_zero _)
  | m+1,p,hm,hp=>by
    rw [al]
    cases c:decide (q=p) with
    | true=>simp
    | false =>
      rw [cond_false]
      have hin:∀ x ∈ l1Parents f p,x.toNat<m∧0≤x∧x<f.people.length:=fun x hx=>by
        have h1:=par_mem.1 hx
        have h2:=isFamily_par f hf p.toNat (by omega)
        omega
      refine nodup_flat (par_nodup hf hp) (fun x hx=>nodup_snoc_map p (al_nodup hf q m x (hin x hx).1 (hin x hx).2)) (fun x hx y hy z hz1 hz2=>?_)
      obtain ⟨l1,h1,e1⟩:=List.mem_map.1 hz1
      obtain ⟨l2,h2,e2⟩:=List.mem_map.1 hz2
      have e3:l1=l2:=List.append_cancel_right (by rw [e1,e2])
      have k1:=((al_mem hf q m x (hin x hx).1 (hin x hx).2 l1).1 h1).end0
      have k2:=((al_mem hf q m y (hin y hy).1 (hin y hy).2 l2).1 h2).end0
      rw [e3,k2] at k1
      exact (Option.some.inj k1).symm
theorem al_stable {f : Family} (hf : specIsFamily f = true) (q : Int) : ∀ (m k : Nat) (p : Int), p.toNat < m → p.toNat < k → 0 ≤ p ∧ p < f.people.length → al f q m p = al f q k p
  | 0,_,_,h,_,_=>absurd h (Nat.not_lt_zero _)
  | _+1,0,_,_,h,_=>absurd h (Nat.not_lt_zero _)
  | m+1,k+1,p,hm,hk,hp=>by
    rw [al,al]
    congr 1
    have e:∀ l:List Int,(∀ x ∈ l,x ∈ l1Parents f p)→l.flatMap (fun x=>(al f q m x).map fun l=>l++[p])=l.flatMap (fun x=>(al f q k x).map fun l=>l++[p]):=by
      intro l
      induction l with
      | nil=>intro _;rfl
      | cons x l ih =>
        intro h
        rw [List.flatMap_cons,List.flatMap_cons,ih fun y hy=>h y (List.mem_cons_of_mem _ hy)]
        have h1:=par_mem.1 (h x (List.mem_cons_self ..))
        have h2:=isFamily_par f hf p.toNat (by omega)
        rw [al_stable hf q m k x (by omega) (by omega) (by omega)]
    exact e _ fun x hx=>hx
theorem al_no {f:Family} (hf:specIsFamily f=true) {q p:Int} (hp:0≤p∧p<f.people.length) (h:p<q):al f q 100 p=[]:=by
 have hn:=(fam_n hf).1
 rw [List.eq_nil_iff_forall_not_mem]
 intro l hl
 have:=((al_mem hf q 100 p (by omega) hp l).1 hl).rng hf hp
 omega
def apt (l m:List Int):Bool:=(l.drop 1).all fun x=>!(m.drop 1).contains x
def inb (f:Family) (q:Int):Int:=bif decide (0≤(f.people.getD q.toNat default).father) && decide (0≤(f.people.getD q.toNat default).mother) then kn f (f.people.getD q.toNat default).father (f.people.getD q.toNat default).mother else 0
def tq (f:Family) (q:Int):Int:=1099511627776+inb f q
def ww (f:Family) (q:Int) (l m:List Int):Int:=bif apt l m then tq f q * 2 ^ (101 - (l.length+m.length)) else 0
def wsum (f:Family) (a b:Int):Int:=sumL (fun q=>sumL (fun l=>sumL (fun m=>ww f q l m) (al f q 100 b)) (al f q 100 a)) (allP f.people.length)
theorem apt_comm (l m:List Int):apt l m=apt m l:=by
 unfold apt
 rw [Bool.eq_iff_iff,List.all_eq_true,List.all_eq_true]
 simp only [Bool.not_eq_true',List.contains_eq_mem,decide_eq_false_iff_not]
 exact ⟨fun h x hx hy=>h x hy hx,fun h x hx hy=>h x hy hx⟩
theorem ww_comm (f:Family) (q:Int) (l m:List Int):ww f q l m=ww f q m l:=by
 unfold ww;rw [apt_comm,Nat.add_comm]
theorem W_comm (f:Family) (a b:Int):wsum f a b=wsum f b a:=by
 unfold wsum
 refine sumL_congr fun q _=>?_
 rw [sumL_swap]
 exact sumL_congr fun l _=>sumL_congr fun m _=>ww_comm f q m l
theorem Ln.le_len {f:Family} (hf:specIsFamily f=true) {q p:Int} {l:List Int} (h:Ln f p q l) (hp:0≤p∧p<f.people.length):(l.length:Int)≤dd f p - dd f q+1∧1≤l.length∧∀ x ∈ l,x≤p:=by
 induction h with
 | one=>exact ⟨by simp,by simp,fun x hx=>by rw [List.mem_singleton.1 hx];exact Int.le_refl _⟩
 | @cons q x l h t ih =>
  have hx:=t.rng hf hp
  have h1:=dd_par hf (a:=x) (by omega) (par_mem.1 h)
  refine ⟨by rw [List.length_cons];omega,by rw [List.length_cons];omega,fun y hy=>?_⟩
  rcases List.mem_cons.1 hy with e | hy
  ·omega
  ·exact ih.2.2 y hy
theorem apt_snoc {l m:List Int} {a:Int} (hl:1≤l.length) (hm:∀ x ∈ m,x<a):apt (l++[a]) m=apt l m:=by
 cases l with
 | nil=>exact absurd hl (by decide)
 | cons y l =>
  unfold apt
  rw [List.cons_append,List.drop_succ_cons,List.drop_zero,List.drop_succ_cons,List.drop_zero,List.all_append]
  have h3:(!(m.drop 1).contains a)=true:=by
   simp only [Bool.not_eq_true',List.contains_eq_mem,decide_eq_false_iff_not]
   intro h
   have:=hm a (List.mem_of_mem_drop h)
   omega
  have h4:([a].all fun x=>!(m.drop 1).contains x)=true:=by
   rw [List.all_cons,List.all_nil,Bool.and_true];exact h3
  rw [h4,Bool.and_true]
theorem W_step {f:Family} (hf:specIsFamily f=true) {a b:Int} (ha:0≤a∧a<f.people.length) (hb:0≤b∧b<a):2 * wsum f a b=sumL (fun x=>wsum f x b) (l1Parents f a):=by
 have hn:=(fam_n hf).1
 unfold wsum
 rw [← sumL_mul,sumL_swap]
 refine sumL_congr fun q hq=>?_
 have hq:=allP_mem.1 hq
 by_cases c:q=a
 ·subst c
  have e:=al_no hf (q:=q) (p:=b) (by omega) (by omega)
  have z:∀ L:List (List Int),sumL (fun l=>sumL (fun m=>ww f q l m) ([]:List (List Int))) L=0:=fun L=>sumL_zero (fun _ _=>rfl)
  rw [e,z,Int.mul_zero]
  exact (sumL_zero fun x _=>z _).symm
 ·have ea:al f q 100 a=(l1Parents f a).flatMap fun x=>(al f q 99 x).map fun l=>l++[a]:=by
   rw [show (100:Nat)=99+1 from rfl,al,decide_eq_false c,cond_false]
  rw [ea,sumL_flat,← sumL_mul]
  refine sumL_congr fun x hx=>?_
  have h1:=par_mem.1 hx
  have h2:=isFamily_par f hf a.toNat (by omega)
  rw [sumL_map,← sumL_mul,al_stable hf q 99 100 x (by omega) (by omega) (by omega)]
  refine sumL_congr fun l hl=>?_
  rw [← sumL_mul]
  refine sumL_congr fun m hm=>?_
  have k1:=((al_mem hf q 100 x (by omega) (by omega) l).1 hl).le_len hf (by omega)
  have k2:=((al_mem hf q 100 b (by omega) (by omega) m).1 hm).le_len hf (by omega)
  have d1:=dd_rng hf (a:=x) (by omega)
  have d2:=dd_rng hf (a:=b) (by omega)
  have d3:=dd_rng hf hq
  unfold ww
  rw [apt_snoc k1.2.1 (fun y hy=>by have:=k2.2.2 y hy;omega),List.length_append,List.length_singleton]
  cases apt l m with
  | false=>rfl
  | true =>
   rw [cond_true,cond_true,show 101 - (l.length+m.length)=(101 - (l.length+1+m.length))+1 by omega,Int.pow_succ]
   rw [Int.mul_comm 2,Int.mul_assoc]
theorem W_self {f:Family} (hf:specIsFamily f=true) {a:Int} (ha:0≤a∧a<f.people.length):wsum f a a=tq f a * 2 ^ 99:=by
 have hn:=(fam_n hf).1
 unfold wsum
 have e1:∀ q,q ∉ [a]→sumL (fun l=>sumL (fun m=>ww f q l m) (al f q 100 a)) (al f q 100 a)=0:=fun q hq=>by
  have hq:¬ q=a:=fun e=>hq (by rw [e];exact List.mem_singleton.2 rfl)
  refine sumL_zero fun l hl=>sumL_zero fun m hm=>?_
  have h1:=(al_mem hf q 100 a (by omega) ha l).1 hl
  have h2:=(al_mem hf q 100 a (by omega) ha m).1 hm
  have key:∀ {l:List Int},Ln f a q l→a ∈ l.drop 1:=fun {l} h=>by
   rcases h.last with ⟨e,_⟩ | ⟨x,l',e,_,h'⟩
   ·exact absurd e hq
   ·obtain ⟨t,e2⟩:=h'.head
    rw [e,e2];simp
  unfold ww
  have:apt l m=false:=by
   rw [Bool.eq_false_iff]
   intro hh
   unfold apt at hh
   rw [List.all_eq_true] at hh
   have h3:=hh a (key h1)
   simp only [Bool.not_eq_true',List.contains_eq_mem,decide_eq_false_iff_not] at h3
   exact h3 (key h2)
  rw [this,cond_false]
 rw [← sumL_common (L:=[a]) (by simp) (fun q hq=>by rw [List.mem_singleton.1 hq];exact ha) e1]
 have e2:al f a 100 a=[[a]]:=by rw [show (100:Nat)=99+1 from rfl,al,decide_eq_true rfl,cond_true]
 simp only [sumL,e2]
 have e3:apt [a] [a]=true:=rfl
 unfold ww
 rw [e3,cond_true]
 simp
theorem sumTo_L {g:Int→Int} (l:List Int):sumTo (fun i=>g (l.getD i default)) l.length=sumL g l:=by
 have:∀ i,i≤l.length→sumTo (fun i=>g (l.getD i default)) i=sumL g (l.take i):=by
  intro i
  induction i with
  | zero=>intro _;simp [sumTo,sumL]
  | succ i ih=>intro h;rw [sumTo,ih (by omega),sumL_snoc g l (by omega) default]
 rw [this _ (Nat.le_refl _),List.take_length]
theorem W_kn {f : Family} (hf : specIsFamily f = true) : ∀ (k : Nat) (a b : Int), 0 ≤ a ∧ a < f.people.length → 0 ≤ b ∧ b < f.people.length → a + b < k → wsum f a b = 2 ^ 100 * kn f a b
  | 0,_,_,_,_,h=>by omega
  | k+1,a,b,ha,hb,hk=>by
    have key:∀ (a b:Int),0≤a∧a<f.people.length→0≤b∧b<a→a+b<(k+1:Nat)→wsum f a b=2 ^ 100 * kn f a b:=fun a b ha hb hk=>by
      have h1:=W_step hf ha hb
      have hpar:∀ x ∈ l1Parents f a,0≤x∧x<a:=fun x hx=>by
        have h1:=par_mem.1 hx
        have h2:=isFamily_par f hf a.toNat (by omega)
        omega
      have h2:sumL (fun x=>wsum f x b) (l1Parents f a)=2 ^ 101 * kn f a b:=by
        rw [kn_lt hf ha hb,sumTo_L (g:=fun x=>kn f x b / 2),← sumL_mul]
        refine sumL_congr fun x hx=>?_
        have h3:=hpar x hx
        have h4:=kn_rng hf (a:=x) (b:=b) (by omega) (by omega)
        rw [W_kn hf k x b (by omega) (by omega) (by omega),show (2:Int) ^ 101=2 ^ 100 * 2 by rfl,Int.mul_assoc,show 2 * (kn f x b / 2)=kn f x b by omega]
      rw [h2,show (2:Int) ^ 101=2 * 2 ^ 100 by rfl,Int.mul_assoc] at h1
      exact Int.eq_of_mul_eq_mul_left (by decide) h1
    rcases Int.lt_trichotomy a b with c | c | c
    · rw [W_comm,kn_comm];exact key b a hb ⟨ha.1,c⟩ (by omega)
    · subst c
      rw [W_self hf ha]
      have h1:=kn_self hf ha
      have h3:tq f a=2 * kn f a a:=by
        unfold tq inb
        rw [h1]
        cases c2:(decide (0≤(f.people.getD a.toNat default).father) && decide (0≤(f.people.getD a.toNat default).mother)) with
        | false=>rfl
        | true =>
          have h2:=two_par3 hf ha c2
          have h3:=kn_rng hf (a:=(f.people.getD a.toNat default).father) (b:=(f.people.getD a.toNat default).mother) (by omega) (by omega)
          rw [cond_true,cond_true];omega
      rw [h3,show (2:Int) ^ 100=2 ^ 99 * 2 by rfl,Int.mul_comm (2 * kn f a a),Int.mul_assoc]
    · exact key a b ha ⟨hb.1,c⟩ (by omega)
end Go.Proofs.Ytkkijpibajigfaa
