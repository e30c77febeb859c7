import Derived.Test.YtaageiiodlfeiaaM240
set_option maxHeartbeats 4000000
set_option linter.unusedSimpArgs false
set_option linter.unusedVariables false
namespace Go.Proofs.Ytaageiiodlfeiaa
open Go Go.Lite Go.Proofs
def L8 (f:Family) (q p k:Int) (S:List (List Int)):Prop :=
 (∀ l∈S,Ln f p q l)∧S.Pairwise (fun a b=>lexL a b=true)∧((S.length:Int)≤k→∀ l,Ln f p q l→l∈S)
theorem zrn (x:Int) (a b:List Int):lexL (x :: a) (x :: b)=lexL a b:=by rw [lexL,decide_eq_true rfl];rfl
theorem z1m {x y:Int} (h:x<y) (a b:List Int):lexL (x :: a) (y :: b)=true:=by
 rw [lexL,decide_eq_false (by omega:¬ x=y),decide_eq_true h];rfl
theorem z1e {L:List (List Int)} (q:Int) (h:L.Pairwise fun a b=>lexL a b=true):(L.map fun t=>q :: t).Pairwise fun a b=>lexL a b=true:=by
 rw [List.pairwise_map]
 exact h.imp fun {a b} h=>by rw [zrn];exact h
theorem Ln.self {f:Family} (hf:zbh f=true) {p:Int} (hp:0≤p∧p<f.people.length) {l:List Int} (h:Ln f p p l):l=[p]:=by
 rcases h.last with ⟨_,e⟩ | ⟨x,l',e,hx,h'⟩
 ·exact e
 ·have h1:=(parL_mem.1 hx)
  have h2:=zcb f hf p.toNat om
  have h3:=h'.rng hf (p:=x) om
  omega
theorem l8_ok {f : Family} (hf : zbh f = true) {p k : Int} (hp : 0 ≤ p ∧ p < f.people.length) : ∀ (m : Nat) (q : Int), ((f.people.length : Int) - q).toNat < m → 0 ≤ q ∧ q < f.people.length → L8 f q p k (zcn m f q p k)
  | 0,_,h,_=>absurd h (Nat.not_lt_zero _)
  | m+1,q,hm,hq=>by
    have hpar:=zcb f hf
    rw [zcn]
    refine zbz (p:=L8 f q p k) (fun c=>?_) (fun c=>?_)
    · have c:=of_decide_eq_true c
      subst c
      exact ⟨fun l hl=>by rw [List.mem_singleton.1 hl];exact .one,List.pairwise_singleton _ _,fun _ l hl=>by rw [hl.self hf hp];exact List.mem_singleton.2 rfl⟩
    · have c:=of_decide_eq_false c
      refine zcc (fun i (v:List (List Int))=>(∀ l∈v,∃ x:Nat,x<i∧q∈zbj f x∧∃ t,l=q :: t∧Ln f p x t)∧v.Pairwise (fun a b=>lexL a b=true)∧((v.length:Int)≤k→∀ x:Nat,x<i→q∈zbj f x→∀ t,Ln f p x t→q :: t∈v)) (L8 f q p k) ⟨fun l hl=>(by cases hl),List.Pairwise.nil,fun _ x hx=>absurd hx (Nat.not_lt_zero _)⟩ (fun i v nx hi hv hn=>?_) (fun v hv=>?_)
      · obtain ⟨v1,v2,v3⟩:=hv
        refine zbz (p:=L8 f q p k) (fun g=>hn _ ⟨fun l hl=>?_,v2,fun hk x hx hqx t ht=>?_⟩) (fun g=>?_)
        · obtain ⟨x,h1,h2⟩:=v1 l hl;exact ⟨x,om,h2⟩
        · rcases Nat.lt_or_ge x i with h | h
          · exact v3 hk x h hqx t ht
          · have e:x=i:=by omega
            subst e
            have h1:=parL_mem.1 hqx
            have h2:=(ziu hf hp (q:=((x:Nat):Int)) ⟨om,om⟩).2 ht.above
            simp only [Bool.or_eq_true,Bool.and_eq_true,Bool.not_eq_true',decide_eq_false_iff_not,decide_eq_true_eq,Int.toNat_natCast] at g h1 h2
            omega
        · have hqx:q∈zbj f ((i:Nat):Int):=by
            rw [zbr,zfq] at g
            have g:=g.1
            simp only [Bool.not_eq_true',decide_eq_false_iff_not,Bool.not_eq_false',decide_eq_true_eq] at g
            refine parL_mem.2 ⟨hq.1,?_⟩
            rw [Int.toNat_natCast]
            omega
          have hqi:q<i:=by
            have h1:=parL_mem.1 hqx
            have h2:=hpar i hi
            rw [Int.toNat_natCast] at h1
            omega
          obtain ⟨i1,i2,i3⟩:=l8_ok hf hp m ((i:Nat):Int) om om
          generalize zcn m f ((i:Nat):Int) p k=L at i1 i2 i3
          refine zcc (fun j (w:List (List Int))=>∃ j',j'≤j∧w=v++(L.take j').map (fun t=>q :: t)∧((w.length:Int)≤k→j'=j)) (L8 f q p k) ⟨0,Nat.le_refl _,by simp,fun _=>rfl⟩ (fun j w next hj hw hn2=>?_) (fun w hw=>?_)
          · obtain ⟨j',h1,h2,h3⟩:=hw
            refine zbz (p:=L8 f q p k) (fun c2=>hn2 _ ?_) (fun c2=>hn2 _ ?_)
            · have e:=h3 (of_decide_eq_true c2)
              subst e
              have e:L.take (j'+1)=L.take j'++[L.getD j' []]:=by
                rw [List.take_add_one,List.getElem?_eq_getElem hj,List.getD_eq_getElem?_getD,List.getElem?_eq_getElem hj];rfl
              refine ⟨j'+1,Nat.le_refl _,?_,fun _=>rfl⟩
              rw [h2,e,List.map_append,List.append_assoc];rfl
            · have c2:=of_decide_eq_false c2
              exact ⟨j',om,h2,fun h=>absurd h c2⟩
          · obtain ⟨j',h1,h2,h3⟩:=hw
            refine hn _ ⟨fun l hl=>?_,?_,fun hk x hx hqx' t ht=>?_⟩
            · rw [h2] at hl
              rcases List.mem_append.1 hl with hl | hl
              · obtain ⟨x,h1,h2⟩:=v1 l hl;exact ⟨x,om,h2⟩
              · obtain ⟨t,ht,rfl⟩:=List.mem_map.1 hl
                exact ⟨i,om,hqx,t,rfl,i1 t (List.mem_of_mem_take ht)⟩
            · rw [h2,List.pairwise_append]
              refine ⟨v2,z1e q (List.Pairwise.sublist (List.take_sublist _ _) i2),fun a ha b hb=>?_⟩
              obtain ⟨x,hx,_,t,rfl,ht⟩:=v1 a ha
              obtain ⟨t2,ht2,rfl⟩:=List.mem_map.1 hb
              obtain ⟨r1,e1⟩:=ht.head
              obtain ⟨r2,e2⟩:=(i1 t2 (List.mem_of_mem_take ht2)).head
              rw [zrn,e1,e2]
              exact z1m om _ _
            · have e:=h3 hk
              rw [e,List.take_length] at h2
              have hlen:w.length=v.length+L.length:=by rw [h2,List.length_append,List.length_map]
              rw [h2]
              rcases Nat.lt_or_ge x i with h | h
              · exact List.mem_append_left _ (v3 om x h hqx' t ht)
              · have e:x=i:=by omega
                subst e
                exact List.mem_append_right _ (List.mem_map.2 ⟨t,i3 om t ht,rfl⟩)
      · obtain ⟨v1,v2,v3⟩:=hv
        refine ⟨fun l hl=>?_,v2,fun hk l hl=>?_⟩
        · obtain ⟨x,_,h2,t,rfl,ht⟩:=v1 l hl;exact .cons h2 ht
        · cases hl with
          | one=>exact absurd rfl c
          | @cons _ x t h ht =>
            have hr:=ht.rng hf hp
            have e:((x.toNat:Nat):Int)=x:=by omega
            exact v3 hk x.toNat om (by rw [e];exact h) t (by rw [e];exact ht)
theorem hasD {x:Family} {p q:Int} (h:((!l1Has x p)||(!l1Has x q))=false):zbh x=true∧(0≤p∧p<x.people.length)∧(0≤q∧q<x.people.length):=by
 simp only [zbr,zbo,ze5] at h
 exact ⟨h.1.2,h.1.1,h.2.1⟩
theorem zl4 {l:List (List Int)} (h:l.Pairwise fun a b=>lexL a b=true):l.Nodup :=
 List.Pairwise.imp (fun {a b} h e=>by rw [e,zp9] at h;cases h) h
theorem srt_pw {l:List (List Int)} (hs:Srt zbu 0 l.length l) (hn:l.Nodup):l.Pairwise fun a b=>lexL a b=true:=by
 rw [List.pairwise_iff_getElem]
 intro i j hi hj hij
 have h1:=hs (i:Int) (j:Int) om om om
 rw [zgp,zuv l (j:Int) om om,zuv l (i:Int) om om] at h1
 simp only [Int.toNat_natCast] at h1
 cases h2:lexL l[i] l[j] with
 | true=>rfl
 | false =>
  exact absurd (zw9 _ _ h2 h1) (fun e=>by have:=(List.pairwise_iff_getElem.1 hn) i j hi hj hij;exact this e)
theorem pw_eq {l m:List (List Int)} (hl:l.Pairwise fun a b=>lexL a b=true) (hm:m.Pairwise fun a b=>lexL a b=true) (h:∀ y,y∈l↔y∈m):l=m :=
 List.Perm.eq_of_pairwise (fun a b _ _ h1 h2=>by rw [znd a b h1] at h2;cases h2) hl hm ((List.perm_ext_iff_of_nodup (zl4 hl) (zl4 hm)).2 h)
theorem zrf {l:List (List Int)}:∀ {m:List (List Int)},l.Nodup→(∀ y∈l,y∈m)→l.length≤m.length:=by
 induction l with
 | nil=>intro m _ _;exact Nat.zero_le _
 | cons x l ih =>
  intro m hl h
  have hl:=List.nodup_cons.1 hl
  have hx:=h x (List.mem_cons_self ..)
  have h1:=List.length_erase_of_mem hx
  have h2:=List.length_pos_of_mem hx
  have h3:=ih (m:=m.erase x) hl.2 (fun y hy=>(List.mem_erase_of_ne (fun e=>hl.1 (by rw [← e];exact hy))).2 (h y (List.mem_cons_of_mem _ hy)))
  rw [List.length_cons]
  omega
def C54 (R:(List (List Int))×Bool):LV×List (Nat×BC):=(.tup [.own 0,.bool R.2],[(0,.nest true 1 R.1.length (nrOf (cInt .i64) R.1))])
def zbl (x0:Family) (x1:Int) (x2:Int):(List (List Int))×Bool:=bif ((!(l1Has x0 x1))||(!(l1Has x0 x2))) then (([]:List (List Int)),false) else (bif (decide (100<(((zil x0 x1 x2 100).length:Nat):Int))) then (([]:List (List Int)),false) else (zil x0 x1 x2 100,true))
def A54 (x0:Family) (x1:Int) (x2:Int):Ann:=r0 1 [1,2,3,6,7] [3] (.reg 1 [] [(2,k41 x0 x1),(7,cg (!(!(l1Has x0 x1))) (k41 x0 x2))] [1,2,3,6,7,18] [3] [!(!(l1Has x0 x1)),!(l1Has x0 x1)] [] [] [0,1,1,4,1,6] (cn ((!(l1Has x0 x1))||(!(l1Has x0 x2))) (r0 1 [1,2,3,6,7] [3] (rt [(0,none)] (C54 (([]:List (List Int)),false)))) (.reg 1 [] [(3,k109 x0 x1 x2 100)] [6,7,8] [1022] [] [] [] [0] (r0 1 [6,7,8,25] [1022] (cn (decide (100<(((zil x0 x1 x2 100).length:Nat):Int))) (r0 1 [6,7,8] [1022] (rt [(0,none)] (C54 (([]:List (List Int)),false)))) (r0 1 [6,7] [1022] (rt [(0,some 1022)] (C54 (zil x0 x1 x2 100,true)))))))))
theorem zi8 (x0:Family) (x1:Int) (x2:Int) (hx:x0.people.length≤1048576) (hu:x0.unions.length≤1048576) (hn:∀ p∈x0.people,p.name.length≤1048576):FnT Try.prog 54 [.agg (zce false x0),.int .i64 x1,.int .i64 x2] (C54 (zbl x0 x1 x2)):=by
 have aux:∀ R,zbl x0 x1 x2=R→slim (C54 R) (A54 x0 x1 x2) []:=by
  intro R hR
  refine rg trivial ?_
  refine rg ⟨⟨by with_reducible assumption,by with_reducible assumption,by with_reducible assumption⟩,fun hg0=>⟨by with_reducible assumption,by with_reducible assumption,by with_reducible assumption⟩,trivial⟩ ?_
  revert hR;refine cd (fun hc1 hR=>?_) fun hc1 hR=>?_
  ·
    refine rg trivial ?_
    exact congrArg C54 hR
  ·
    refine rg ⟨⟨by (have h9:=hasD hc1;have h8:=fam_n h9.1;omega),by (have h9:=hasD hc1;have h8:=fam_n h9.1;omega),by (have h9:=hasD hc1;have h8:=fam_n h9.1;omega),by (with_reducible exact zcb _ (hasD hc1).1),by (intros;omega)⟩,trivial⟩ ?_
    refine rg trivial ?_
    revert hR;refine cd (fun hc2 hR=>?_) fun hc2 hR=>?_
    ·
      refine rg trivial ?_
      exact congrArg C54 hR
    ·
      refine rg trivial ?_
      exact congrArg C54 hR
 exact Fn.go 27 Try.func54 zax zax (by simp [C54,FrsN,nrOf,Frs,FrsL,FrsB,rowOf,cInt,cBool,cStr,cSl,zdj,zca,zcu,zce,cDyad,ziq]) (A54 x0 x1 x2) zax (aux _ rfl)
def k54 (x0:Family) (x1:Int) (x2:Int):Cl:=(hres (C54 (zbl x0 x1 x2)),k3 (zi8 x0 x1 x2))
def zgc (x0:Family) (x1:Int) (x2:Int):(List (List Int))×Bool:=bif (!(zfd x0 [x1,x2])) then (([]:List (List Int)),false) else ((zbt x0 x1 x2).1,(zbt x0 x1 x2).2)
theorem zw8 (f : Family) (q : Int) : ∀ (m : Nat) (p : Int), (zb9 m f q p).2 = false → (zb9 m f q p).1 = []
  | 0,_,_=>rfl
  | m+1,p,h=>by
    revert h
    rw [zb9]
    refine zbz (p:=fun (r:List (List Int)×Bool)=>r.2=false→r.1=[]) (fun _ h=>zbg) (fun _=>?_)
    refine zcc (fun _ (_:List (List Int))=>True) (fun (r:List (List Int)×Bool)=>r.2=false→r.1=[]) trivial (fun i v nx hi _ hn=>?_) (fun v _=>?_)
    · refine zbz (p:=fun (r:List (List Int)×Bool)=>r.2=false→r.1=[]) (fun _ _=>rfl) (fun _=>?_)
      refine zcc (fun _ (_:List (List Int))=>True) (fun (r:List (List Int)×Bool)=>r.2=false→r.1=[]) trivial (fun j w next _ _ hn2=>hn2 _ trivial) (fun w _=>?_)
      exact zbz (p:=fun (r:List (List Int)×Bool)=>r.2=false→r.1=[]) (fun _ _=>rfl) (fun _=>hn _ trivial)
    · exact zbz (p:=fun (r:List (List Int)×Bool)=>r.2=false→r.1=[]) (fun _ h=>zbg) (fun _ h=>zbg)
theorem zk6 (x:Family) (q p:Int):zgc x q p=zbl x q p:=by
 have hh:zfd x [q,p]=(l1Has x q&&l1Has x p):=by
  rw [Bool.eq_iff_iff,Bool.and_eq_true,zch,ze5,ze5]
  exact ⟨fun ⟨a,b,c⟩=>⟨⟨b,a⟩,c,a⟩,fun ⟨⟨b,a⟩,c,_⟩=>⟨a,b,c⟩⟩
 unfold zgc zbl
 rw [hh,← Bool.not_and]
 cases c:(l1Has x q&&l1Has x p) with
 | false=>rfl
 | true =>
  have c2:((!l1Has x q)||(!l1Has x p))=false:=by rw [← Bool.not_and,c];rfl
  obtain ⟨hf,hq,hp⟩:=hasD c2
  have hn:=(fam_n hf).1
  rw [Bool.not_true,cond_false,cond_false]
  obtain ⟨l1,l2⟩:=zum hf q 100 p om hp
  have l3:=zw8 x q 100 p
  have l4:=(zhv 100 x q p (zcb _ hf) hp).1
  obtain ⟨s1,s2,s3⟩:=l8_ok hf (k:=100) hp 100 q om hq
  unfold zbt zil
  generalize zb9 100 x q p=r at l1 l2 l3 l4
  generalize zcn 100 x q p 100=S at s1 s2 s3
  obtain ⟨r1,r2⟩:=r
  cases r2 with
  | true =>
   obtain ⟨k1,k2,k3⟩:=l1 rfl
   have hle:=zrf (zl4 s2) (fun y hy=>(k1 y).2 (s1 y hy))
   have e:S=r1:=pw_eq s2 (srt_pw k3 k2) (fun y=>⟨fun hy=>(k1 y).2 (s1 y hy),fun hy=>s3 (by dsimp only at hle l4;omega) y ((k1 y).1 hy)⟩)
   dsimp only at l4 ⊢
   rw [e,decide_eq_false (by omega:¬ (100:Int)<((r1.length:Nat):Int))]
   rfl
  | false =>
   obtain ⟨W,w1,w2,w3⟩:=l2 rfl
   have h0:=l3 rfl
   dsimp only at h0 ⊢
   rw [h0]
   have:100<S.length:=by
    rcases Nat.lt_or_ge 100 S.length with h | h
    ·exact h
    ·have:=zrf w1 (fun y hy=>s3 om y (w3 y hy))
     omega
   rw [decide_eq_true (by omega:(100:Int)<((S.length:Nat):Int))]
   rfl
theorem zv4 (x:Family) (q p:Int):(zgc x q p).1.length≤1000∧∀ y∈(zgc x q p).1,y.length≤1000:=by
 rw [zk6]
 unfold zbl
 refine zbz (p:=fun (r:List (List Int)×Bool)=>r.1.length≤1000∧∀ y∈r.1,y.length≤1000) (fun _=>⟨Nat.zero_le _,fun y hy=>absurd hy List.not_mem_nil⟩) (fun c=>?_)
 obtain ⟨hf,hq,hp⟩:=hasD c
 have hn:=(fam_n hf).1
 have h7:=zfc 100 x q p 100 (by decide) hq (zcb _ hf)
 refine zbz (p:=fun (r:List (List Int)×Bool)=>r.1.length≤1000∧∀ y∈r.1,y.length≤1000) (fun _=>⟨Nat.zero_le _,fun y hy=>absurd hy List.not_mem_nil⟩) (fun _=>⟨Nat.le_trans h7.1 (by decide),fun y hy=>Nat.le_trans (h7.2 y hy) om⟩)
def sumL {α : Type} (g : α → Int) : List α → Int
  | []=>0
  | x :: l=>g x+sumL g l
theorem zl2 {α : Type} (g : α → Int) : ∀ (l m : List α), sumL g (l ++ m) = sumL g l + sumL g m
  | [],m=>by simp [sumL]
  | x :: l,m=>by rw [List.cons_append,sumL,sumL,zl2 g l m,Int.add_assoc]
theorem zc8 {α : Type} {g h : α → Int} : ∀ {l : List α}, (∀ x ∈ l, g x = h x) → sumL g l = sumL h l
  | [],_=>rfl
  | x :: l,e=>by rw [sumL,sumL,e x (List.mem_cons_self ..),zc8 fun y hy=>e y (List.mem_cons_of_mem _ hy)]
theorem zf4 {α:Type} {g:α→Int} {l:List α} (h:∀ x∈l,g x=0):sumL g l=0:=by
 rw [zc8 h]
 clear h
 induction l with
 | nil=>rfl
 | cons x l ih=>rw [sumL,ih];rfl
theorem zt6 {α : Type} (g h : α → Int) : ∀ l : List α, sumL (fun x => g x + h x) l = sumL g l + sumL h l
  | []=>rfl
  | x :: l=>by rw [sumL,sumL,sumL,zt6 g h l];omega
theorem zfw {α : Type} (k : Int) (g : α → Int) : ∀ l : List α, sumL (fun x => k * g x) l = k * sumL g l
  | []=>by rw [sumL,sumL,Int.mul_zero]
  | x :: l=>by rw [sumL,sumL,zfw k g l,Int.mul_add]
theorem zmj {α β : Type} (g : α → β → Int) (m : List β) : ∀ l : List α, sumL (fun x => sumL (g x) m) l = sumL (fun y => sumL (fun x => g x y) l) m
  | []=>(zf4 fun _ _=>rfl).symm
  | x :: l=>by rw [sumL,zmj g m l,← zt6];rfl
theorem zt5 {α β : Type} (g : β → Int) (f : α → β) : ∀ l : List α, sumL g (l.map f) = sumL (fun x => g (f x)) l
  | []=>rfl
  | x :: l=>by rw [List.map_cons,sumL,sumL,zt5 g f l]
theorem zqz {α β : Type} (g : β → Int) (f : α → List β) : ∀ l : List α, sumL g (l.flatMap f) = sumL (fun x => sumL g (f x)) l
  | []=>rfl
  | x :: l=>by rw [List.flatMap_cons,zl2,sumL,zqz g f l]
theorem zjw {α:Type} {g:α→Int} {l m:List α} (h:l.Perm m):sumL g l=sumL g m:=by
 induction h with
 | nil=>rfl
 | cons x _ ih=>rw [sumL,sumL,ih]
 | swap x y l=>rw [sumL,sumL,sumL,sumL];omega
 | trans _ _ h1 h2=>rw [h1,h2]
theorem zei {α : Type} {g : α → Int} : ∀ {l : List α}, (∀ x ∈ l, 0 ≤ g x) → 0 ≤ sumL g l
  | [],_=>Int.le_refl 0
  | x :: l,h=>by
    have h1:=h x (List.mem_cons_self ..)
    have h2:=zei fun y hy=>h y (List.mem_cons_of_mem _ hy)
    rw [sumL];omega
theorem zha {α:Type} (g:α→Int) (l:List α) {i:Nat} (hi:i<l.length) (d:α):sumL g (l.take (i+1))=sumL g (l.take i)+g (l.getD i d):=by
 have e:l.take (i+1)=l.take i++[l.getD i d]:=by
  rw [List.take_add_one,List.getElem?_eq_getElem hi,List.getD_eq_getElem?_getD,List.getElem?_eq_getElem hi];rfl
 rw [e,zl2]
 simp [sumL]
theorem zmi {α:Type} {g:α→Int} {l:List α} (h:∀ x∈l,0≤g x) (i:Nat):sumL g (l.take i)≤sumL g l:=by
 have e:sumL g l=sumL g (l.take i)+sumL g (l.drop i):=by rw [← zl2,List.take_append_drop]
 have:=zei (g:=g) (l:=l.drop i) fun x hx=>h x (List.mem_of_mem_drop hx)
 omega
theorem zjk {α : Type} (g : α → Int) (p : α → Bool) (h : ∀ x, p x = false → g x = 0) : ∀ l : List α, sumL g (l.filter p) = sumL g l
  | []=>rfl
  | x :: l=>by
    rw [List.filter_cons,sumL]
    cases c:p x with
    | true=>rw [if_pos rfl,sumL,zjk g p h l]
    | false=>rw [if_neg zaz,zjk g p h l,h x c];omega
def allP (n:Nat):List Int:=(List.range n).map fun i=>((i:Nat):Int)
theorem allP_mem {n:Nat} {q:Int}:q∈allP n↔0≤q∧q<n:=by
 unfold allP
 rw [List.mem_map]
 constructor
 ·rintro ⟨i,hi,rfl⟩;have:=List.mem_range.1 hi;omega
 ·intro h;exact ⟨q.toNat,List.mem_range.2 om,om⟩
theorem zwc (n:Nat):(allP n).Nodup:=by
 unfold allP
 exact List.Pairwise.map (R:=fun a b:Nat=>a≠b) _ (fun a b h e=>h om) List.nodup_range
theorem zmk {g:Int→Int} {n:Nat} {L:List Int} (hn:L.Nodup) (hb:∀ q∈L,0≤q∧q<n) (hz:∀ q,q ∉ L→g q=0):sumL g L=sumL g (allP n):=by
 rw [← zjk g (fun q=>decide (q∈L)) (fun q h=>hz q (of_decide_eq_false h)) (allP n)]
 refine zjw ((List.perm_ext_iff_of_nodup hn ((zwc n).filter _)).2 fun q=>?_)
 rw [List.mem_filter,decide_eq_true_eq,allP_mem]
 exact ⟨fun h=>⟨hb q h,h⟩,fun h=>h.2⟩
def al (f : Family) (q : Int) : Nat → Int → List (List Int)
  | 0,_=>[]
  | m+1,p=>bif decide (q=p) then [[p]] else (zbj f p).flatMap fun x=>(al f q m x).map fun l=>l++[p]
theorem zgf {f : Family} (hf : zbh f = true) (q : Int) : ∀ (m : Nat) (p : Int), p.toNat < m → 0 ≤ p ∧ p < f.people.length → ∀ l, l ∈ al f q m p ↔ Ln f p q l
  | 0,_,h,_=>absurd h (Nat.not_lt_zero _)
  | m+1,p,hm,hp=>fun l=>by
    rw [al]
    cases c:decide (q=p) with
    | true =>
      have c:=of_decide_eq_true c
      subst c
      rw [cond_true,List.mem_singleton]
      exact ⟨fun e=>by rw [e];exact .one,fun h=>h.self hf hp⟩
    | false =>
      have c:=of_decide_eq_false c
      rw [cond_false,List.mem_flatMap]
      constructor
      · rintro ⟨x,hx,h⟩
        obtain ⟨l',hl',rfl⟩:=List.mem_map.1 h
        have h1:=parL_mem.1 hx
        have h2:=zcb f hf p.toNat om
        exact ((zgf hf q m x om om l').1 hl').snoc hx
      · intro h
        rcases h.last with ⟨e,_⟩ | ⟨x,l',e,hx,h'⟩
        · exact absurd e c
        · have h1:=parL_mem.1 hx
          have h2:=zcb f hf p.toNat om
          exact ⟨x,hx,List.mem_map.2 ⟨l',(zgf hf q m x om om l').2 h',e.symm⟩⟩
theorem zot {β : Type} {f : Int → List β} : ∀ {l : List Int}, l.Nodup → (∀ x ∈ l, (f x).Nodup) → (∀ x ∈ l, ∀ y ∈ l, ∀ z, z ∈ f x → z ∈ f y → x = y) → (l.flatMap f).Nodup
  | [],_,_,_=>List.nodup_nil
  | x :: l,hl,h1,h2=>by
    have hl:=List.nodup_cons.1 hl
    rw [List.flatMap_cons,List.nodup_append]
    refine ⟨h1 x (List.mem_cons_self ..),zot hl.2 (fun y hy=>h1 y (List.mem_cons_of_mem _ hy)) (fun a ha b hb=>h2 a (List.mem_cons_of_mem _ ha) b (List.mem_cons_of_mem _ hb)),fun a ha b hb e=>?_⟩
    obtain ⟨y,hy,hz⟩:=List.mem_flatMap.1 hb
    subst e
    have:=h2 x (List.mem_cons_self ..) y (List.mem_cons_of_mem _ hy) a ha hz
    subst this
    exact hl.1 hy
theorem zu8 {f : Family} (hf : zbh f = true) (q : Int) : ∀ (m : Nat) (p : Int), p.toNat < m → 0 ≤ p ∧ p < f.people.length → (al f q m p).Nodup
  | 0,_,h,_=>absurd h (Nat.not_lt_zero _)
  | m+1,p,hm,hp=>by
    rw [al]
    cases c:decide (q=p) with
    | true=>simp
    | false =>
      rw [cond_false]
      have hin:∀ x∈zbj f p,x.toNat<m∧0≤x∧x<f.people.length:=fun x hx=>by
        have h1:=parL_mem.1 hx
        have h2:=zcb f hf p.toNat om
        omega
      refine zot (zq8 hf hp) (fun x hx=>zg2 p (zu8 hf q m x (hin x hx).1 (hin x hx).2)) (fun x hx y hy z hz1 hz2=>?_)
      obtain ⟨l1,h1,e1⟩:=List.mem_map.1 hz1
      obtain ⟨l2,h2,e2⟩:=List.mem_map.1 hz2
      have e3:l1=l2:=List.append_cancel_right (by rw [e1,e2])
      have k1:=((zgf hf q m x (hin x hx).1 (hin x hx).2 l1).1 h1).end0
      have k2:=((zgf hf q m y (hin y hy).1 (hin y hy).2 l2).1 h2).end0
      rw [e3,k2] at k1
      exact (Option.some.inj k1).symm
theorem zsc {f : Family} (hf : zbh f = true) (q : Int) : ∀ (m k : Nat) (p : Int), p.toNat < m → p.toNat < k → 0 ≤ p ∧ p < f.people.length → al f q m p = al f q k p
  | 0,_,_,h,_,_=>absurd h (Nat.not_lt_zero _)
  | _+1,0,_,_,h,_=>absurd h (Nat.not_lt_zero _)
  | m+1,k+1,p,hm,hk,hp=>by
    rw [al,al]
    congr 1
    have e:∀ l:List Int,(∀ x∈l,x∈zbj f p)→l.flatMap (fun x=>(al f q m x).map fun l=>l++[p])=l.flatMap (fun x=>(al f q k x).map fun l=>l++[p]):=by
      intro l
      induction l with
      | nil=>intro _;rfl
      | cons x l ih =>
        intro h
        rw [List.flatMap_cons,List.flatMap_cons,ih fun y hy=>h y (List.mem_cons_of_mem _ hy)]
        have h1:=parL_mem.1 (h x (List.mem_cons_self ..))
        have h2:=zcb f hf p.toNat om
        rw [zsc hf q m k x om om om]
    exact e _ fun x hx=>hx
theorem al_no {f:Family} (hf:zbh f=true) {q p:Int} (hp:0≤p∧p<f.people.length) (h:p<q):al f q 100 p=[]:=by
 have hn:=(fam_n hf).1
 rw [List.eq_nil_iff_forall_not_mem]
 intro l hl
 have:=((zgf hf q 100 p om hp l).1 hl).rng hf hp
 omega
def apt (l m:List Int):Bool:=(l.drop 1).all fun x=>!(m.drop 1).contains x
def inb (f:Family) (q:Int):Int:=bif decide (0≤(f.people.getD q.toNat default).father)&&decide (0≤(f.people.getD q.toNat default).mother) then kn f (f.people.getD q.toNat default).father (f.people.getD q.toNat default).mother else 0
def tq (f:Family) (q:Int):Int:=1099511627776+inb f q
def ww (f:Family) (q:Int) (l m:List Int):Int:=bif apt l m then tq f q * 2 ^ (101 - (l.length+m.length)) else 0
def wsum (f:Family) (a b:Int):Int:=sumL (fun q=>sumL (fun l=>sumL (fun m=>ww f q l m) (al f q 100 b)) (al f q 100 a)) (allP f.people.length)
theorem zzw (l m:List Int):apt l m=apt m l:=by
 unfold apt
 rw [Bool.eq_iff_iff,List.all_eq_true,List.all_eq_true]
 simp only [Bool.not_eq_true',List.contains_eq_mem,decide_eq_false_iff_not]
 exact ⟨fun h x hx hy=>h x hy hx,fun h x hx hy=>h x hy hx⟩
theorem z04 (f:Family) (q:Int) (l m:List Int):ww f q l m=ww f q m l:=by
 unfold ww;rw [zzw,Nat.add_comm]
theorem W_comm (f:Family) (a b:Int):wsum f a b=wsum f b a:=by
 unfold wsum
 refine zc8 fun q _=>?_
 rw [zmj]
 exact zc8 fun l _=>zc8 fun m _=>z04 f q m l
theorem Ln.le_len {f:Family} (hf:zbh f=true) {q p:Int} {l:List Int} (h:Ln f p q l) (hp:0≤p∧p<f.people.length):(l.length:Int)≤dd f p - dd f q+1∧1≤l.length∧∀ x∈l,x≤p:=by
 induction h with
 | one=>exact ⟨by simp,by simp,fun x hx=>by rw [List.mem_singleton.1 hx];exact Int.le_refl _⟩
 | @cons q x l h t ih =>
  have hx:=t.rng hf hp
  have h1:=zep hf (a:=x) om (parL_mem.1 h)
  refine ⟨by rw [List.length_cons];omega,by rw [List.length_cons];omega,fun y hy=>?_⟩
  rcases List.mem_cons.1 hy with e | hy
  ·omega
  ·exact ih.2.2 y hy
theorem zzv {l m:List Int} {a:Int} (hl:1≤l.length) (hm:∀ x∈m,x<a):apt (l++[a]) m=apt l m:=by
 cases l with
 | nil=>exact absurd hl (by decide)
 | cons y l =>
  unfold apt
  rw [List.cons_append,List.drop_succ_cons,List.drop_zero,List.drop_succ_cons,List.drop_zero,List.all_append]
  have h3:(!(m.drop 1).contains a)=true:=by
   simp only [Bool.not_eq_true',List.contains_eq_mem,decide_eq_false_iff_not]
   intro h
   have:=hm a (List.mem_of_mem_drop h)
   omega
  have h4:([a].all fun x=>!(m.drop 1).contains x)=true:=by
   rw [List.all_cons,List.all_nil,Bool.and_true];exact h3
  rw [h4,Bool.and_true]
theorem W_step {f:Family} (hf:zbh f=true) {a b:Int} (ha:0≤a∧a<f.people.length) (hb:0≤b∧b<a):2 * wsum f a b=sumL (fun x=>wsum f x b) (zbj f a):=by
 have hn:=(fam_n hf).1
 unfold wsum
 rw [← zfw,zmj]
 refine zc8 fun q hq=>?_
 have hq:=allP_mem.1 hq
 by_cases c:q=a
 ·subst c
  have e:=al_no hf (q:=q) (p:=b) om om
  have z:∀ L:List (List Int),sumL (fun l=>sumL (fun m=>ww f q l m) ([]:List (List Int))) L=0:=fun L=>zf4 (fun _ _=>rfl)
  rw [e,z,Int.mul_zero]
  exact (zf4 fun x _=>z _).symm
 ·have ea:al f q 100 a=(zbj f a).flatMap fun x=>(al f q 99 x).map fun l=>l++[a]:=by
   rw [show (100:Nat)=99+1 from rfl,al,decide_eq_false c,cond_false]
  rw [ea,zqz,← zfw]
  refine zc8 fun x hx=>?_
  have h1:=parL_mem.1 hx
  have h2:=zcb f hf a.toNat om
  rw [zt5,← zfw,zsc hf q 99 100 x om om om]
  refine zc8 fun l hl=>?_
  rw [← zfw]
  refine zc8 fun m hm=>?_
  have k1:=((zgf hf q 100 x om om l).1 hl).le_len hf om
  have k2:=((zgf hf q 100 b om om m).1 hm).le_len hf om
  have d1:=zgd hf (a:=x) om
  have d2:=zgd hf (a:=b) om
  have d3:=zgd hf hq
  unfold ww
  rw [zzv k1.2.1 (fun y hy=>by have:=k2.2.2 y hy;omega),List.length_append,List.length_singleton]
  cases apt l m with
  | false=>rfl
  | true =>
   rw [cond_true,cond_true,show 101 - (l.length+m.length)=(101 - (l.length+1+m.length))+1 by omega,Int.pow_succ]
   rw [Int.mul_comm 2,Int.mul_assoc]
theorem W_self {f:Family} (hf:zbh f=true) {a:Int} (ha:0≤a∧a<f.people.length):wsum f a a=tq f a * 2 ^ 99:=by
 have hn:=(fam_n hf).1
 unfold wsum
 have e1:∀ q,q ∉ [a]→sumL (fun l=>sumL (fun m=>ww f q l m) (al f q 100 a)) (al f q 100 a)=0:=fun q hq=>by
  have hq:¬ q=a:=fun e=>hq (by rw [e];exact List.mem_singleton.2 rfl)
  refine zf4 fun l hl=>zf4 fun m hm=>?_
  have h1:=(zgf hf q 100 a om ha l).1 hl
  have h2:=(zgf hf q 100 a om ha m).1 hm
  have key:∀ {l:List Int},Ln f a q l→a∈l.drop 1:=fun {l} h=>by
   rcases h.last with ⟨e,_⟩ | ⟨x,l',e,_,h'⟩
   ·exact absurd e hq
   ·obtain ⟨t,e2⟩:=h'.head
    rw [e,e2];simp
  unfold ww
  have:apt l m=false:=by
   rw [Bool.eq_false_iff]
   intro hh
   unfold apt at hh
   rw [List.all_eq_true] at hh
   have h3:=hh a (key h1)
   simp only [Bool.not_eq_true',List.contains_eq_mem,decide_eq_false_iff_not] at h3
   exact h3 (key h2)
  rw [this,cond_false]
 rw [← zmk (L:=[a]) zaz (fun q hq=>by rw [List.mem_singleton.1 hq];exact ha) e1]
 have e2:al f a 100 a=[[a]]:=by rw [show (100:Nat)=99+1 from rfl,al,decide_eq_true rfl,cond_true]
 simp only [sumL,e2]
 have e3:apt [a] [a]=true:=rfl
 unfold ww
 rw [e3,cond_true]
 simp
theorem z08 {g:Int→Int} (l:List Int):sumTo (fun i=>g (l.getD i default)) l.length=sumL g l:=by
 have:∀ i,i≤l.length→sumTo (fun i=>g (l.getD i default)) i=sumL g (l.take i):=by
  intro i
  induction i with
  | zero=>intro _;simp [sumTo,sumL]
  | succ i ih=>intro h;rw [sumTo,ih om,zha g l om default]
 rw [this _ (Nat.le_refl _),List.take_length]
theorem W_kn {f : Family} (hf : zbh f = true) : ∀ (k : Nat) (a b : Int), 0 ≤ a ∧ a < f.people.length → 0 ≤ b ∧ b < f.people.length → a + b < k → wsum f a b = 2 ^ 100 * kn f a b
  | 0,_,_,_,_,h=>by omega
  | k+1,a,b,ha,hb,hk=>by
    have key:∀ (a b:Int),0≤a∧a<f.people.length→0≤b∧b<a→a+b<(k+1:Nat)→wsum f a b=2 ^ 100 * kn f a b:=fun a b ha hb hk=>by
      have h1:=W_step hf ha hb
      have hpar:∀ x∈zbj f a,0≤x∧x<a:=fun x hx=>by
        have h1:=parL_mem.1 hx
        have h2:=zcb f hf a.toNat om
        omega
      have h2:sumL (fun x=>wsum f x b) (zbj f a)=2 ^ 101 * kn f a b:=by
        rw [kn_lt hf ha hb,z08 (g:=fun x=>kn f x b / 2),← zfw]
        refine zc8 fun x hx=>?_
        have h3:=hpar x hx
        have h4:=zgb hf (a:=x) (b:=b) om om
        rw [W_kn hf k x b om om om,show (2:Int) ^ 101=2 ^ 100 * 2 by rfl,Int.mul_assoc,show 2 * (kn f x b / 2)=kn f x b by omega]
      rw [h2,show (2:Int) ^ 101=2 * 2 ^ 100 by rfl,Int.mul_assoc] at h1
      exact Int.eq_of_mul_eq_mul_left (by decide) h1
    rcases Int.lt_trichotomy a b with c | c | c
    · rw [W_comm,zs2];exact key b a hb ⟨ha.1,c⟩ om
    · subst c
      rw [W_self hf ha]
      have h1:=znl hf ha
      have h3:tq f a=2 * kn f a a:=by
        unfold tq inb
        rw [h1]
        cases c2:(decide (0≤(f.people.getD a.toNat default).father)&&decide (0≤(f.people.getD a.toNat default).mother)) with
        | false=>rfl
        | true =>
          have h2:=zix hf ha c2
          have h3:=zgb hf (a:=(f.people.getD a.toNat default).father) (b:=(f.people.getD a.toNat default).mother) om om
          rw [cond_true,cond_true];omega
      rw [h3,show (2:Int) ^ 100=2 ^ 99 * 2 by rfl,Int.mul_comm (2 * kn f a a),Int.mul_assoc]
    · exact key a b ha ⟨hb.1,c⟩ om
end Go.Proofs.Ytaageiiodlfeiaa
