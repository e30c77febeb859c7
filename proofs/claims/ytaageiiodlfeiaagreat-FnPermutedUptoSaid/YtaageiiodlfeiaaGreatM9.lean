import Derived.Test.YtaageiiodlfeiaaGreatV7
set_option maxHeartbeats 4000000
set_option linter.unusedSimpArgs false
set_option linter.unusedVariables false
namespace Go.Proofs.YtaageiiodlfeiaaGreat
open Go Go.Lite Go.Proofs
inductive Up (x : Family) (p : Int) : Nat → Int → Prop
  | zero:Up x p 0 p
  | step {n:Nat} {a q:Int} (h:Up x p n a) (hq:q∈zbe x a):Up x p (n+1) q
structure IsDist (x:Family) (p:Int) (o:List Int):Prop where
 len:o.length=x.people.length
 no:∀ k:Nat,k<x.people.length→o.getD k default<0→o.getD k default=-1∧∀ m,¬ Up x p m k
 yes:∀ k:Nat,k<x.people.length→0≤o.getD k default→Up x p (o.getD k default).toNat k∧∀ m,Up x p m k→o.getD k default≤m
theorem IsDist.uniq {x:Family} {p:Int} {o o':List Int} (h:IsDist x p o) (h':IsDist x p o'):o=o':=by
 apply List.ext_getElem (by rw [h.len,h'.len])
 intro k hk hk'
 have hkn:k<x.people.length:=by rw [← h.len];exact hk
 have e:o.getD k default=o'.getD k default:=by
  rcases Int.lt_or_le (o.getD k default) 0 with c | c
  ·obtain ⟨a1,a2⟩:=h.no k hkn c
   rcases Int.lt_or_le (o'.getD k default) 0 with c' | c'
   ·rw [a1,(h'.no k hkn c').1]
   ·exact absurd (h'.yes k hkn c').1 (a2 _)
  ·obtain ⟨a1,a2⟩:=h.yes k hkn c
   rcases Int.lt_or_le (o'.getD k default) 0 with c' | c'
   ·exact absurd a1 ((h'.no k hkn c').2 _)
   ·obtain ⟨b1,b2⟩:=h'.yes k hkn c'
    have:=a2 _ b1
    have:=b2 _ a1
    omega
 rw [List.getD_eq_getElem?_getD,List.getD_eq_getElem?_getD,List.getElem?_eq_getElem hk,List.getElem?_eq_getElem hk'] at e
 simpa using e
def Par (x:Family):Prop:=∀ (k:Nat),k<x.people.length→(x.people.getD k default).father<k∧(x.people.getD k default).mother<k
theorem zdk {α:Type} {l:List α} {q d:α} (h:q∈l):∃ k,k<l.length∧l.getD k d=q:=by
 obtain ⟨k,hk,e⟩:=List.getElem_of_mem h
 exact ⟨k,hk,by rw [List.getD_eq_getElem?_getD,List.getElem?_eq_getElem hk,Option.getD_some,e]⟩
theorem zb0 {α:Type} {l:List α} {k:Nat} {d:α} (hk:k<l.length):l.getD k d∈l:=by
 rw [List.getD_eq_getElem?_getD,List.getElem?_eq_getElem hk];exact List.getElem_mem hk
theorem zh1 {x:Family} (hp:Par x) {a q:Int} (ha:0≤a∧a<x.people.length) (hq:q∈zbe x a):0≤q∧q<a:=by
 obtain ⟨k,hk,e⟩:=zdk (d:=default) hq
 have h1:=(zdb x a).2 k hk
 rw [e] at h1
 have h2:=hp a.toNat om
 omega
theorem Up.rng {x:Family} (hp:Par x) {p:Int} (h0:0≤p∧p<x.people.length) {n:Nat} {k:Int} (h:Up x p n k):0≤k∧k<x.people.length∧k+n≤p:=by
 induction h with
 | zero=>omega
 | step _ hq ih=>have:=zh1 hp ⟨ih.1,ih.2.1⟩ hq;omega
theorem zs1 {x : Family} (hp : Par x) {p : Int} (h0 : 0 ≤ p ∧ p < x.people.length) {o : List Int} (hl : o.length = x.people.length) (hm : ∀ k : Nat, k < x.people.length → -1 ≤ o.getD k default) (hs : ∀ k : Nat, k < x.people.length → 0 ≤ o.getD k default → Up x p (o.getD k default).toNat k)
    (hz:o.getD p.toNat default=0) (hr:∀ a:Nat,a<x.people.length→0≤o.getD a default→∀ q∈zbe x a,0≤o.getD q.toNat default∧o.getD q.toNat default≤o.getD a default+1):IsDist x p o:=by
 have key:∀ n k,Up x p n k→0≤o.getD k.toNat default∧o.getD k.toNat default≤n:=by
  intro n k h
  induction h with
  | zero=>rw [hz];omega
  | @step n a q h hq ih =>
   obtain ⟨g1,g2,_⟩:=h.rng hp h0
   have:=hr a.toNat om ih.1 q (by rw [show ((a.toNat:Nat):Int)=a by omega];exact hq)
   omega
 refine ⟨hl,fun k hk hc=>⟨by have:=hm k hk;omega,fun m h=>?_⟩,fun k hk hc=>⟨hs k hk hc,fun m h=>?_⟩⟩
 ·have:=(key m k h).1;simp only [Int.toNat_natCast] at this;omega
 ·have:=(key m k h).2;simpa using this
theorem zev (x:Family) (p:Int) (hp:Par x) (h0:0≤p∧p<x.people.length):IsDist x p (l8Up x p):=by
 unfold l8Up
 refine zb3 (fun i (v:List Int)=>v=List.replicate i (-1)) (IsDist x p) rfl (fun i v next _ hv hn=>hn _ (by rw [hv];exact zhj _ _)) (fun v hv=>?_)
 subst hv
 have hrep:∀ k,(List.replicate x.people.length (-1:Int)).getD k default=if k<x.people.length then -1 else 0:=fun k=>zfd _ _ _ _
 refine ze0 (fun (s : List Int × Int) => s.1.length = x.people.length ∧ -1 ≤ s.2 ∧ s.2 < x.people.length ∧ (∀ k : Nat, k < x.people.length → -1 ≤ s.1.getD k default) ∧ (∀ k : Nat, k < x.people.length → 0 ≤ s.1.getD k default → Up x p (s.1.getD k default).toNat k) ∧
     s.1.getD p.toNat default=0∧∀ a:Nat,a<x.people.length→s.2<a→0≤s.1.getD a default→∀ q∈zbe x a,0≤s.1.getD q.toNat default∧s.1.getD q.toNat default≤s.1.getD a default+1)
  (fun s=>(s.2+1).toNat) (IsDist x p) (fun s next hs hn=>?_) _ _ (Nat.lt_succ_self _) ?_
 ·obtain ⟨o,i⟩:=s
  obtain ⟨g1,g2,g3,g4,g5,g6,g7⟩:=hs
  simp only at g1 g2 g3 g4 g5 g6 g7 hn ⊢
  cases c1:decide (0≤i)
  ·have:=of_decide_eq_false c1
   exact zs1 hp h0 g1 g4 g5 g6 fun a ha=>g7 a ha om
  ·have hi0:=of_decide_eq_true c1
   simp only [cond_true]
   cases c2:decide (o.getD i.toNat default<0)
   ·have hi1:=of_decide_eq_false c2
    simp only [cond_false]
    refine zb3 (fun j (v : List Int) => v.length = x.people.length ∧ (∀ k : Nat, i ≤ k → v.getD k default = o.getD k default) ∧ (∀ k : Nat, k < x.people.length → -1 ≤ v.getD k default) ∧ (∀ k : Nat, k < x.people.length → 0 ≤ v.getD k default → Up x p (v.getD k default).toNat k) ∧
      v.getD p.toNat default=0∧(∀ k:Nat,0≤o.getD k default→0≤v.getD k default∧v.getD k default≤o.getD k default)∧∀ l,l<j→0≤v.getD ((zbe x i).getD l default).toNat default∧v.getD ((zbe x i).getD l default).toNat default≤o.getD i.toNat default+1)
      (IsDist x p) ⟨g1,fun _ _=>rfl,g4,g5,g6,fun k hk=>⟨hk,Int.le_refl _⟩,fun l hl=>absurd hl (Nat.not_lt_zero _)⟩ (fun j v next hj hv hn=>?_) (fun v hv=>?_)
    ·obtain ⟨e1,e2,e3,e4,e5,e6,e7⟩:=hv
     have hq:=zb0 (d:=default) hj
     generalize hqq:(zbe x i).getD j default=q at hq
     have hqi:=zh1 hp ⟨hi0,g3⟩ hq
     have hvi:v.getD i.toNat default=o.getD i.toNat default:=e2 _ om
     have hui:Up x p (o.getD i.toNat default).toNat i:=by
      have:=g5 i.toNat om om
      rwa [show ((i.toNat:Nat):Int)=i by omega] at this
     refine zbm (p:=IsDist x p) (fun c=>hn _ ?_) (fun c=>hn _ ?_)
     ·rw [hvi] at c ⊢
      simp only [Bool.or_eq_true,decide_eq_true_eq] at c
      refine ⟨by simp [e1],fun k hk=>?_,fun k hk=>?_,fun k hk=>?_,?_,fun k hk=>?_,fun l hl=>?_⟩
      ·rw [zcf,if_neg om];exact e2 k hk
      ·rw [zcf];split
       ·omega
       ·exact e3 k hk
      ·rw [zcf];split
       ·rename_i e
        intro _
        rw [show (k:Int)=q by omega,show (o.getD i.toNat default+1).toNat=(o.getD i.toNat default).toNat+1 by omega]
        exact .step hui hq
       ·exact e4 k hk
      ·rw [zcf];split
       ·rename_i e;rw [← e.1] at c;omega
       ·exact e5
      ·have:=e6 k hk
       rw [zcf];split
       ·rename_i e;rw [← e.1] at c;omega
       ·exact this
      ·rw [zcf];split
       ·omega
       ·rename_i e
        rcases Nat.lt_or_ge l j with h | h
        ·exact e7 l h
        ·rw [show l=j by omega,hqq] at e;exact absurd ⟨rfl,om⟩ e
     ·rw [hvi] at c
      simp only [zbd,decide_eq_false_iff_not] at c
      refine ⟨e1,e2,e3,e4,e5,e6,fun l hl=>?_⟩
      rcases Nat.lt_or_ge l j with h | h
      ·exact e7 l h
      ·rw [show l=j by omega,hqq];omega
    ·obtain ⟨e1,e2,e3,e4,e5,e6,e7⟩:=hv
     refine hn _ ⟨e1,om,om,e3,e4,e5,fun a ha hia hva q hq=>?_⟩ zaz
     have hva:0≤v.getD a default:=hva
     have hia:i - 1<a:=hia
     show 0≤v.getD q.toNat default∧v.getD q.toNat default≤v.getD a default+1
     by_cases e:(a:Int)=i
     ·rw [e] at hq
      obtain ⟨l,hl,he⟩:=zdk (d:=default) hq
      have:=e7 l hl
      rw [he] at this
      rw [e2 a om,show a=i.toNat by omega];exact this
     ·have ha2:o.getD a default=v.getD a default:=(e2 a om).symm
      have g:=g7 a ha om om q hq
      have:=e6 q.toNat g.1
      omega
   ·have hi1:=of_decide_eq_true c2
    refine hn _ ⟨g1,om,om,g4,g5,g6,fun a ha hia hva q hq=>?_⟩ zaz
    have hva:0≤o.getD a default:=hva
    have hia:i - 1<a:=hia
    by_cases e:(a:Int)=i
    ·rw [show a=i.toNat by omega] at hva;omega
    ·exact g7 a ha om hva q hq
 ·simp only [List.length_set,List.length_replicate,zcf,hrep]
  refine ⟨trivial,om,om,fun k hk=>by split<;>simp_all,fun k hk=>?_,by rw [if_pos ⟨trivial,om⟩],fun a ha hia=>by omega⟩
  split
  ·rename_i e;intro _;rw [show (k:Int)=p by omega];exact .zero
  ·intro h;omega
structure Bfs (x:Family) (p:Int) (o t:List Int):Prop where
 inv:StepsInv x o t
 snd:∀ k:Nat,k<x.people.length→0≤o.getD k default→Up x p (o.getD k default).toNat k
 zero:o.getD p.toNat default=0
 mem:∀ s∈t,0≤s∧s<x.people.length∧0≤o.getD s.toNat default
 srt:t.Pairwise fun a b=>o.getD a.toNat default≤o.getD b.toNat default
theorem zta {α:Type} (l:List α):(l.drop 1).take (l.length - 1)=l.tail:=by
 cases l with
 | nil=>rfl
 | cons a l=>simp
theorem zhx (x:Family) (p:Int) (hp:Par x) (h0:0≤p∧p<x.people.length):IsDist x p (zbg x p):=by
 unfold zbg
 refine zb3 (fun i (v:List Int)=>Rg v x.people.length fun k y=>k<i→y=-1) (IsDist x p) (Rg.rep fun k hk h=>absurd h (Nat.not_lt_zero _)) (fun i v next _ hv hn=>hn _ (zs6 hv)) (fun v hv=>?_)
 have hstart:=StepsInv.start h0 hv
 have hget:∀ k,k<x.people.length→(v.set p.toNat 0).getD k default=if k=p.toNat then 0 else -1:=fun k hk=>by
  rw [zcf,hv.len]
  split
  ·rename_i e;rw [if_pos e.1]
  ·rename_i e;rw [if_neg (fun q=>e ⟨q,om⟩)];exact hv.get k hk hk
 refine ze0 (fun (s : List Int × List Int) => Bfs x p s.1 s.2 ∧ (∀ a ∈ s.2.head?, ∀ k : Nat, k < x.people.length → s.1.getD k default ≤ s.1.getD a.toNat default + 1) ∧
     ∀ a:Nat,a<x.people.length→0≤s.1.getD a default→(a:Int) ∉ s.2→∀ q∈zbe x a,0≤s.1.getD q.toNat default∧s.1.getD q.toNat default≤s.1.getD a default+1)
  (fun s=>s.2.length+neg s.1) (IsDist x p) (fun s next hs hn=>?_) _ _ (Nat.lt_succ_self _) ?_
 ·obtain ⟨o,t⟩:=s
  obtain ⟨b,top,done⟩:=hs
  simp only at b top done hn ⊢
  cases t with
  | nil =>
   simp only [List.length_nil,Int.ofNat_zero,Int.lt_irrefl,decide_false,cond_false,Int.natCast_zero]
   exact zs1 hp h0 b.inv.rg.len (fun k hk=>(b.inv.rg.get k hk).1) b.snd b.zero fun a ha hoa=>done a ha hoa zaj
  | cons a t =>
   have hc:decide (0<(((a :: t).length:Nat):Int))=true:=by simp only [List.length_cons,decide_eq_true_eq];omega
   rw [hc]
   simp only [cond_true]
   have hhd:(a :: t).getD 0 default=a:=rfl
   rw [hhd,zfu,zta,List.tail_cons]
   obtain ⟨ha0,han,hao⟩:=b.mem a zaj
   have hsrt:=b.srt
   rw [List.pairwise_cons] at hsrt
   have top:=top a rfl
   have hpop:=(StepsInv.pop b.inv zaj).1
   rw [zta,List.tail_cons] at hpop
   have hup:Up x p (o.getD a.toNat default).toNat a:=by
    have:=b.snd a.toNat om hao
    rwa [show ((a.toNat:Nat):Int)=a by omega] at this
   refine zb3 (fun j (v : List Int × List Int) => Bfs x p v.1 v.2 ∧ v.1.getD a.toNat default = o.getD a.toNat default ∧ v.2.length + neg v.1 = t.length + neg o ∧ (∀ s ∈ v.2, o.getD a.toNat default ≤ v.1.getD s.toNat default) ∧ (∀ k : Nat, k < x.people.length → v.1.getD k default ≤ o.getD a.toNat default + 1) ∧
       (∀ k:Nat,k<x.people.length→0≤v.1.getD k default→(k:Int) ∉ v.2→(k:Int)≠a→∀ q∈zbe x k,0≤v.1.getD q.toNat default∧v.1.getD q.toNat default≤v.1.getD k default+1) ∧
       ∀ l,l<j→0≤v.1.getD ((zbe x a).getD l default).toNat default)
    (IsDist x p) ⟨⟨hpop,b.snd,b.zero,fun s hs=>b.mem s (List.mem_cons_of_mem _ hs),hsrt.2⟩,rfl,rfl,hsrt.1,top,fun k hk hko hkt hka=>done k hk hko (by simp [hkt,hka]),fun l hl=>absurd hl (Nat.not_lt_zero _)⟩ (fun j v next hj hv hn=>?_) (fun v hv=>?_)
   ·obtain ⟨o1,t1⟩:=v
    obtain ⟨c,e1,e2,e3,e4,e5,e6⟩:=hv
    simp only at c e1 e2 e3 e4 e5 e6 hn ⊢
    have hq:=zb0 (d:=default) hj
    generalize hqq:(zbe x a).getD j default=q at hq
    have hqa:=zh1 hp ⟨ha0,han⟩ hq
    rw [e1]
    refine zbm (p:=IsDist x p) (fun g=>hn _ ?_) (fun g=>hn _ ?_)
    ·have g:=of_decide_eq_true g
     have hpush:=StepsInv.push c.inv ⟨ha0,han⟩ hqa g
     rw [e1] at hpush
     have hqt:q ∉ t1:=fun h=>by have:=(c.mem q h).2.2;omega
     have hne:∀ s∈t1,s.toNat≠q.toNat:=fun s hs e=>hqt (by rw [show q=s by have:=(c.mem s hs).1;omega];exact hs)
     have hold:∀ k:Nat,k≠q.toNat→(o1.set q.toNat (o.getD a.toNat default+1)).getD k default=o1.getD k default:=fun k hk=>by rw [zcf,if_neg (fun e=>hk e.1)]
     have hnew:(o1.set q.toNat (o.getD a.toNat default+1)).getD q.toNat default=o.getD a.toNat default+1:=by rw [zcf,if_pos ⟨rfl,by rw [c.inv.rg.len];omega⟩]
     refine ⟨⟨hpush.1,fun k hk=>?_,?_,fun s hs=>?_,?_⟩,?_,by have:=hpush.2;simp only;omega,fun s hs=>?_,fun k hk=>?_,fun k hk hko hkt hka q' hq'=>?_,fun l hl=>?_⟩
     ·by_cases e:k=q.toNat
      ·subst e
       intro _
       rw [hnew,show ((q.toNat:Nat):Int)=q by omega,show (o.getD a.toNat default+1).toNat=(o.getD a.toNat default).toNat+1 by omega]
       exact .step hup hq
      ·rw [hold k e];exact c.snd k hk
     ·have:p.toNat≠q.toNat:=fun e=>by rw [← e] at g;have:=c.zero;omega
      rw [hold _ this];exact c.zero
     ·rcases List.mem_append.1 hs with hs | hs
      ·rw [hold _ (hne s hs)];exact c.mem s hs
      ·rw [List.mem_singleton.1 hs,hnew];exact ⟨om,om,om⟩
     ·rw [List.pairwise_append]
      refine ⟨c.srt.imp_of_mem fun {s s'} hs hs' h=>by rw [hold _ (hne s hs),hold _ (hne s' hs')];exact h,List.pairwise_singleton _ _,fun s hs s' hs'=>?_⟩
      rw [List.mem_singleton.1 hs',hnew,hold _ (hne s hs)]
      obtain ⟨m1,m2,_⟩:=c.mem s hs
      exact e4 s.toNat om
     ·rw [hold _ om];exact e1
     ·rcases List.mem_append.1 hs with hs | hs
      ·rw [hold _ (hne s hs)];exact e3 s hs
      ·rw [List.mem_singleton.1 hs,hnew];omega
     ·by_cases e:k=q.toNat
      ·subst e;rw [hnew];omega
      ·rw [hold k e];exact e4 k hk
     ·have hkq:k≠q.toNat:=fun e=>hkt (by rw [List.mem_append];right;rw [List.mem_singleton];omega)
      rw [hold k hkq] at hko ⊢
      have h9:=e5 k hk hko (fun h=>hkt (List.mem_append.2 (.inl h))) hka q' hq'
      have hq'q:q'.toNat≠q.toNat:=fun e=>by rw [e] at h9;omega
      rw [hold _ hq'q];exact h9
     ·by_cases e:((zbe x a).getD l default).toNat=q.toNat
      ·rw [e,hnew];omega
      ·rw [hold _ e]
       rcases Nat.lt_or_ge l j with h | h
       ·exact e6 l h
       ·rw [show l=j by omega,hqq] at e;exact absurd rfl e
    ·have g:=of_decide_eq_false g
     refine ⟨c,e1,e2,e3,e4,e5,fun l hl=>?_⟩
     rcases Nat.lt_or_ge l j with h | h
     ·exact e6 l h
     ·show 0≤o1.getD _ default
      rw [show l=j by omega,hqq];omega
   ·obtain ⟨o1,t1⟩:=v
    obtain ⟨c,e1,e2,e3,e4,e5,e6⟩:=hv
    simp only at c e1 e2 e3 e4 e5 e6 hn ⊢
    refine hn _ ⟨c,fun h hh k hk=>?_,fun k hk hko hkt q hq=>?_⟩ (by simp only [List.length_cons];omega)
    ·have := e3 h (by
       cases t1 with
       | nil=>simp at hh
       | cons y t1=>simp at hh;subst hh;simp)
     have:=e4 k hk
     show o1.getD k default≤o1.getD h.toNat default+1
     omega
    ·have hko:0≤o1.getD k default:=hko
     have hkt:(k:Int) ∉ t1:=hkt
     show 0≤o1.getD q.toNat default∧o1.getD q.toNat default≤o1.getD k default+1
     by_cases e:(k:Int)=a
     ·rw [e] at hq
      obtain ⟨l,hl,he⟩:=zdk (d:=default) hq
      have h1:=e6 l hl
      rw [he] at h1
      have h2:=zh1 hp ⟨ha0,han⟩ hq
      have h1:0≤o1.getD q.toNat default:=h1
      have:=e4 q.toNat om
      rw [show k=a.toNat by omega,e1]
      omega
     ·exact e5 k hk hko hkt e q hq
 ·refine ⟨⟨hstart,fun k hk=>?_,?_,fun s hs=>?_,List.pairwise_singleton _ _⟩,fun a ha k hk=>?_,fun a ha hao hat=>?_⟩
  ·show 0≤(v.set p.toNat 0).getD k default→Up x p ((v.set p.toNat 0).getD k default).toNat k
   rw [hget k hk]
   split
   ·intro _;rw [show (k:Int)=p by omega];exact .zero
   ·intro h;omega
  ·show (v.set p.toNat 0).getD p.toNat default=0
   rw [hget _ om,if_pos rfl]
  ·have hs:s=p:=List.mem_singleton.1 hs
   subst hs
   refine ⟨h0.1,h0.2,?_⟩
   show 0≤(v.set s.toNat 0).getD s.toNat default
   rw [hget _ om,if_pos rfl];omega
  ·have ha:a=p:=by simpa using ha.symm
   subst ha
   show (v.set a.toNat 0).getD k default≤(v.set a.toNat 0).getD a.toNat default+1
   rw [hget k hk,hget _ om,if_pos rfl]
   split<;>omega
  ·have hao:0≤(v.set p.toNat 0).getD a default:=hao
   have hat:(a:Int) ∉ [p]:=hat
   rw [hget a ha] at hao
   split at hao
   ·exact absurd (List.mem_singleton.2 om) hat
   ·omega
theorem zc4 (x:Family) (p:Int) (hp:Par x) (h0:0≤p∧p<x.people.length):zbg x p=l8Up x p:=(zhx x p hp h0).uniq (zev x p hp h0)
theorem zcb (x:Family) (p:Int) (hp:Par x) (h0:0≤p∧p<x.people.length):(zbg x p).length=x.people.length:=(zhx x p hp h0).len
structure FamP (x:Family) (k:Nat):Prop where
 name:zcc (x.people.getD k default).name=true
 sex:1≤(x.people.getD k default).sex∧(x.people.getD k default).sex≤2
 born:0≤(x.people.getD k default).born∧(x.people.getD k default).born≤9999
 died:(x.people.getD k default).died=-1∨(x.people.getD k default).born≤(x.people.getD k default).died∧(x.people.getD k default).died≤9999
 uniq:∀ j,j<k→(x.people.getD j default).name≠(x.people.getD k default).name
 fa : (x.people.getD k default).father = -1 ∨ 0 ≤ (x.people.getD k default).father ∧ (x.people.getD k default).father < k ∧ (x.people.getD (x.people.getD k default).father.toNat default).sex = 1 ∧ (x.people.getD (x.people.getD k default).father.toNat default).born < (x.people.getD k default).born ∧
   ((x.people.getD (x.people.getD k default).father.toNat default).died=-1∨(x.people.getD k default).born≤(x.people.getD (x.people.getD k default).father.toNat default).died+1)
 mo : (x.people.getD k default).mother = -1 ∨ 0 ≤ (x.people.getD k default).mother ∧ (x.people.getD k default).mother < k ∧ (x.people.getD (x.people.getD k default).mother.toNat default).sex = 2 ∧ (x.people.getD (x.people.getD k default).mother.toNat default).born < (x.people.getD k default).born ∧
   ((x.people.getD (x.people.getD k default).mother.toNat default).died=-1∨(x.people.getD k default).born≤(x.people.getD (x.people.getD k default).mother.toNat default).died)
structure FamU (x:Family) (k:Nat):Prop where
 man:0≤(x.unions.getD k default).man∧(x.unions.getD k default).man<x.people.length
 woman:0≤(x.unions.getD k default).woman∧(x.unions.getD k default).woman<x.people.length
 msex:(x.people.getD (x.unions.getD k default).man.toNat default).sex=1
 wsex:(x.people.getD (x.unions.getD k default).woman.toNat default).sex=2
 from0:(x.people.getD (x.unions.getD k default).man.toNat default).born≤(x.unions.getD k default).from0∧(x.people.getD (x.unions.getD k default).woman.toNat default).born≤(x.unions.getD k default).from0∧(x.unions.getD k default).from0≤9999
 to:(x.unions.getD k default).to=-1∨(x.unions.getD k default).from0≤(x.unions.getD k default).to∧(x.unions.getD k default).to≤9999
 mdied:(x.people.getD (x.unions.getD k default).man.toNat default).died=-1∨(x.unions.getD k default).from0≤(x.people.getD (x.unions.getD k default).man.toNat default).died∧(x.unions.getD k default).to≤(x.people.getD (x.unions.getD k default).man.toNat default).died
 wdied:(x.people.getD (x.unions.getD k default).woman.toNat default).died=-1∨(x.unions.getD k default).from0≤(x.people.getD (x.unions.getD k default).woman.toNat default).died∧(x.unions.getD k default).to≤(x.people.getD (x.unions.getD k default).woman.toNat default).died
 uniq:∀ j,j<k→(x.unions.getD j default).man=(x.unions.getD k default).man→¬ (x.unions.getD j default).woman=(x.unions.getD k default).woman
theorem zuc (x:Family) (k:Nat):zfz x k=true↔FamU x k:=by
 have q0:∀ {α:Type} (a b d:α),[a,b].getD 0 d=a:=fun _ _ _=>rfl
 have q1:∀ {α:Type} (a b d:α),[a,b].getD 1 d=b:=fun _ _ _=>rfl
 have h2:∀ {p:Nat→Prop},(∀ j,j<2→p j)↔p 0∧p 1:=⟨fun h=>⟨h 0 om,h 1 om⟩,fun h j hj=>by
  match j,hj with
  | 0,_=>exact h.1
  | 1,_=>exact h.2⟩
 have e : FamU x k ↔ (0 ≤ (x.unions.getD k default).man ∧ (x.unions.getD k default).man < x.people.length) ∧ (0 ≤ (x.unions.getD k default).woman ∧ (x.unions.getD k default).woman < x.people.length) ∧ (x.people.getD (x.unions.getD k default).man.toNat default).sex = 1 ∧
   (x.people.getD (x.unions.getD k default).woman.toNat default).sex=2∧((x.people.getD (x.unions.getD k default).man.toNat default).born≤(x.unions.getD k default).from0∧(x.people.getD (x.unions.getD k default).woman.toNat default).born≤(x.unions.getD k default).from0∧(x.unions.getD k default).from0≤9999) ∧
   ((x.unions.getD k default).to=-1∨(x.unions.getD k default).from0≤(x.unions.getD k default).to∧(x.unions.getD k default).to≤9999) ∧
   ((x.people.getD (x.unions.getD k default).man.toNat default).died=-1∨(x.unions.getD k default).from0≤(x.people.getD (x.unions.getD k default).man.toNat default).died∧(x.unions.getD k default).to≤(x.people.getD (x.unions.getD k default).man.toNat default).died) ∧
   ((x.people.getD (x.unions.getD k default).woman.toNat default).died=-1∨(x.unions.getD k default).from0≤(x.people.getD (x.unions.getD k default).woman.toNat default).died∧(x.unions.getD k default).to≤(x.people.getD (x.unions.getD k default).woman.toNat default).died) ∧
   (∀ j,j<k→(x.unions.getD j default).man=(x.unions.getD k default).man→¬ (x.unions.getD j default).woman=(x.unions.getD k default).woman) :=
   ⟨fun h=>⟨h.man,h.woman,h.msex,h.wsex,h.from0,h.to,h.mdied,h.wdied,h.uniq⟩,fun ⟨h1,h2,h3,h4,h5,h6,h7,h8,h9⟩=>⟨h1,h2,h3,h4,h5,h6,h7,h8,h9⟩⟩
 rw [e]
 simp only [zfz,zdo,zbd,zfb,l1In,Bool.and_eq_true,Bool.or_eq_true,za9,zba,zih,decide_eq_true_eq,decide_eq_false_iff_not,h2,Int.toNat_natCast,q0,q1,and_true]
 generalize (∀ j,j<k→(x.unions.getD j default).man=(x.unions.getD k default).man→¬(x.unions.getD j default).woman=(x.unions.getD k default).woman)=Z
 generalize x.people.getD (x.unions.getD k default).man.toNat default=a
 generalize x.people.getD (x.unions.getD k default).woman.toNat default=b
 generalize x.unions.getD k default=u
 by_cases hz:Z<;>simp only [hz,and_true,and_false]
 omega
theorem zf4 {n:Int} (h:-1≤n∧n≤20000):IntKind.wrap .i64 n=n:=zdw (by simp only [inR];omega)
theorem zls (x:Family) (k:Nat) (hd:∀ j:Nat,j<k→(x.people.getD j default).died=-1∨0≤(x.people.getD j default).died∧(x.people.getD j default).died≤9999):zea x k=true↔FamP x k:=by
 have hw:∀ (q:Int),0≤q→q<k→∀ l:Int,0≤l∧l≤1→IntKind.wrap .i64 ((x.people.getD q.toNat default).died+l)=(x.people.getD q.toNat default).died+l:=fun q h0 h1 l hl=>zf4 (by have:=hd q.toNat om;omega)
 rw [zfx,zgt,zgt]
 simp only [Int.toNat_natCast]
 constructor
 ·rintro ⟨h1,h2,h3,h4,h5,h6,h7⟩
  refine ⟨h1,h2,h3,h4,h5,h6.imp id fun h=>⟨h.1,h.2.1,h.2.2.1,h.2.2.2.1,?_⟩,h7.imp id fun h=>⟨h.1,h.2.1,h.2.2.1,h.2.2.2.1,?_⟩⟩
  ·rw [← hw _ h.1 h.2.1 1 om];exact h.2.2.2.2
  ·have:=h.2.2.2.2;rw [hw _ h.1 h.2.1 0 om] at this;simpa using this
 ·rintro ⟨h1,h2,h3,h4,h5,h6,h7⟩
  refine ⟨h1,h2,h3,h4,h5,h6.imp id fun h=>⟨h.1,h.2.1,h.2.2.1,h.2.2.2.1,?_⟩,h7.imp id fun h=>⟨h.1,h.2.1,h.2.2.1,h.2.2.2.1,?_⟩⟩
  ·rw [hw _ h.1 h.2.1 1 om];exact h.2.2.2.2
  ·rw [hw _ h.1 h.2.1 0 om];simpa using h.2.2.2.2
theorem zie (x:Family):za4 x=true↔(x.people.length≤40∧x.unions.length≤60)∧(∀ k:Nat,k<x.people.length→FamP x k)∧(∀ k:Nat,k<x.people.length→(zbi x).getD k default≤10)∧∀ k:Nat,k<x.unions.length→FamU x k:=by
 rw [zch]
 have e1:∀ k:Nat,(zfz x k=true↔FamU x k):=zuc x
 simp only [e1]
 refine and_congr_right fun _=>and_congr_left fun _=>?_
 constructor
 ·intro h k hk
  refine (zls x k fun j hj=>?_).1 (h k hk)
  obtain ⟨_,_,h1,h2,_⟩:=(zfx x j).1 (h j om)
  simp only [Int.toNat_natCast] at h1 h2
  omega
 ·intro h k hk
  refine (zls x k fun j hj=>?_).2 (h k hk)
  have:=h j om
  have h1:=this.born;have h2:=this.died
  omega
theorem fam_p {x:Family} (h:za4 x=true) {k:Nat} (hk:k<x.people.length):FamP x k:=((zie x).1 h).2.1 k hk
theorem fam_u {x:Family} (h:za4 x=true) {k:Nat} (hk:k<x.unions.length):FamU x k:=((zie x).1 h).2.2.2 k hk
theorem fam_n {x:Family} (h:za4 x=true):x.people.length≤40∧x.unions.length≤60:=((zie x).1 h).1
theorem zdj {α:Type} {l:List α} {z d:α} {k:Nat} (h:k<l.length):(l++[z]).getD k d=l.getD k d:=by
 rw [zdu,if_pos h]
theorem zhy {α:Type} {l:List α} {z d:α} {k:Nat} (h:k=l.length):(l++[z]).getD k d=z:=by
 rw [zdu,if_neg om,if_pos h]
theorem zus (n:Int):inR .i64 (IntKind.wrap .i64 n):=by
 simp only [inR,IntKind.wrap,IntKind.signed,IntKind.bits]
 simp
 omega
theorem zhf (x m:Int) (k:Nat) (hm:m=k) (hk:k<9223372036854775808):0≤bits .and .i64 x m∧bits .and .i64 x m≤m:=by
 have h1:(BitVec.ofInt 64 x &&& BitVec.ofInt 64 m).toNat≤k:=by
  rw [BitVec.toNat_and]
  refine Nat.le_trans Nat.and_le_right ?_
  subst hm
  simp only [BitVec.toNat_ofInt]
  omega
 have e:bits .and .i64 x m=((BitVec.ofInt 64 x &&& BitVec.ofInt 64 m).toNat:Int):=by
  show IntKind.wrap .i64 _=_
  exact zdw (n:=((BitVec.ofInt 64 x &&& BitVec.ofInt 64 m).toNat:Int)) (by simp only [inR];omega)
 rw [e]
 omega
theorem zew {l:List Int} (h:∀ y∈l,0≤y∧y≤255) (k:Nat):0≤l.getD k default∧l.getD k default≤255:=by
 rcases Nat.lt_or_ge k l.length with hk | hk
 ·have:=h _ (List.getElem_mem hk)
  simpa [List.getD_eq_getElem?_getD,List.getElem?_eq_getElem hk] using this
 ·simp [List.getD_eq_getElem?_getD,List.getElem?_eq_none hk]
theorem IsDist.bd {x:Family} {p:Int} {o:List Int} (h:IsDist x p o) (hp:Par x) (h0:0≤p∧p<x.people.length) (k:Nat):-1≤o.getD k default∧o.getD k default≤p:=by
 rcases Nat.lt_or_ge k x.people.length with hk | hk
 ·rcases Int.lt_or_le (o.getD k default) 0 with c | c
  ·have:=(h.no k hk c).1;omega
  ·have:=((h.yes k hk c).1).rng hp h0;omega
 ·rw [List.getD_eq_getElem?_getD,List.getElem?_eq_none (by rw [h.len];exact hk)]
  show -1≤(0:Int)∧(0:Int)≤p
  omega
theorem zxu (x:Family) (p:Int) (hp:Par x) (h0:0≤p∧p<x.people.length) (k:Nat):-1≤(l8Up x p).getD k default∧(l8Up x p).getD k default≤p:=(zev x p hp h0).bd hp h0 k
theorem zf5 (x:Family) (p:Int) (hp:Par x) (h0:0≤p∧p<x.people.length) (k:Nat):-1≤(zbg x p).getD k default∧(zbg x p).getD k default≤p:=(zhx x p hp h0).bd hp h0 k
def zeo (x0:Family) (x1:Int) (x2:Int):(List Int):=loopN (fun i1 (v1:(List Int)) next=>bif ((decide (0≤((l8Up x0 x1).getD i1 default)))&&(decide (0≤((l8Up x0 x2).getD i1 default)))) then (next (v1++[((i1:Nat):Int)])) else (next v1)) (fun (v1:(List Int))=>v1) ((l8Up x0 x1).length) 0 ([]:List Int)
def C91 (R:(List Int)):LV×List (Nat×BC):=(.own 0,[(0,.arr 1 R.length (rowOf (cInt .i64) R))])
def za5 (x0:Family) (x1:Int) (x2:Int):(List Int):=loopN (fun i1 (v1:(List Int)) next=>bif ((decide (0≤((zbg x0 x1).getD i1 default)))&&(decide (0≤((zbg x0 x2).getD i1 default)))) then (next (v1++[((i1:Nat):Int)])) else (next v1)) (fun (v1:(List Int))=>v1) x0.people.length 0 ([]:List Int)
def D91b1 (x0:Family) (x1:Int) (x2:Int) (i1:Nat) (v1:(List Int)):Dl:=⟨[(20,.int .i64 ((i1:Nat):Int)),(9,.own 20009)],[(20009,.arr 1 v1.length (rowOf (cInt .i64) v1))]⟩
def A91b1 (x0:Family) (x1:Int) (x2:Int) (i1:Nat) (v1:(List Int)):Ann:=r0 1 [6,7,8,9,19,20,21] [1013,1016,20009] (cn (decide (((i1:Nat):Int)<((x0.people.length:Nat):Int))) (.reg 2 [] [] [6,7,8,9,10,19,20,34] [1013,1016,20009] [decide (0≤((zbg x0 x1).getD i1 default))] [pf (0≤(((i1:Nat):Int):Int)∧(((i1:Nat):Int):Int)<(((zbg x0 x1).length:Nat):Int)),gt (decide (0≤((zbg x0 x1).getD i1 default))) (pf (0≤(((i1:Nat):Int):Int)∧(((i1:Nat):Int):Int)<(((zbg x0 x2).length:Nat):Int)))] [] [0,1,1,4,1,1,1] (cn ((decide (0≤((zbg x0 x1).getD i1 default)))&&(decide (0≤((zbg x0 x2).getD i1 default)))) (.reg 1 [] [(2,bsC 37 (cInt .i64) ([((i1:Nat):Int)]:List Int)),(3,ap1 38 (cInt .i64) 8 v1 ((i1:Nat):Int))] [6,7,8,9,19,20] [38,1013,1016] [] [] [] [0,4] (r1 1 [6,7,8,9,19,20] [38,1013,1016] [pf (inR .i64 (((i1:Nat):Int)+1))] [0] (.next 0 [(20009,some 38)] (D91b1 x0 x1 x2 (i1+1) (v1++[((i1:Nat):Int)]))))) (r1 1 [6,7,8,9,19,20] [1013,1016,20009] [pf (inR .i64 (((i1:Nat):Int)+1))] [0] (.next 0 [(20009,some 20009)] (D91b1 x0 x1 x2 (i1+1) v1))))) (r0 1 [6] [20009] (rt [(0,some 20009)] (C91 v1))))
def A91 (x0:Family) (x1:Int) (x2:Int):Ann:=.reg 3 [] [(1002,k51 x0 x1),(1005,k51 x0 x2)] [3,6,7,8,9] [3,1013,1016] [] [] [] [0,4] (r0 1 [6,7,8,9,19,20] [1013,1016] (lp (D91b1 x0 x1 x2) [] [] [(20009,none)] (D91b1 x0 x1 x2 0 ([]:List Int)) (A91b1 x0 x1 x2)))
theorem zhl (x0:Family) (x1:Int) (x2:Int) (hx:x0.people.length≤1048576) (hi:0≤x1∧x1<x0.people.length) (hj:0≤x2∧x2<x0.people.length) (hp:∀ (k:Nat),k<x0.people.length→(x0.people.getD k default).father<k∧(x0.people.getD k default).mother<k):FnT Tryz.prog 91 [.agg (zbx false x0),.int .i64 x1,.int .i64 x2] (C91 (za5 x0 x1 x2)):=by
 have aux:∀ R,za5 x0 x1 x2=R→slim (C91 R) (A91 x0 x1 x2) []:=by
  intro R hR
  refine rg ⟨⟨by trivial,by trivial,by trivial⟩,⟨by trivial,by trivial,by trivial⟩,trivial⟩ ?_
  refine rg trivial ?_
  revert hR;refine lN (fun i v=>v.length≤i) zai rfl fun i1 v1 F1 hn1 hI1 hR hK1=>?_
  refine rg trivial ?_
  refine ⟨fun hc1=>?_,fun hc1=>?_⟩
  ·have hii1:i1<x0.people.length:=by have:=of_decide_eq_true hc1;omega
   replace hR:=zbj hR hii1
   refine rg ⟨by (have:=zcb x0 x1 hp hi;have:=zcb x0 x2 hp hj;omega),by (have:=zcb x0 x1 hp hi;have:=zcb x0 x2 hp hj;omega),trivial⟩ ?_
   revert hR;refine cd (fun hc2 hR=>?_) fun hc2 hR=>?_
   ·
     refine rg ⟨trivial,om,trivial⟩ ?_
     refine rg ⟨by ( intros;simp only [inR];omega),trivial⟩ ?_
     exact hK1 (v1++[((i1:Nat):Int)]) hii1 (by (simp;omega)) hR
   ·
     refine rg ⟨by ( intros;simp only [inR];omega),trivial⟩ ?_
     exact hK1 v1 hii1 za2 hR
  ·obtain rfl:i1=x0.people.length:=by have:=of_decide_eq_false hc1;omega
   replace hR:=zbp hR (Nat.lt_irrefl _)
   refine rg trivial ?_
   exact congrArg C91 hR
 exact Fn.go 41 Tryz.func91 zah zah (by simp [C91,Frs,FrsL,FrsB,rowOf,cInt,cBool,cStr,cSl,zce,zbq,zb4,zbx]) (A91 x0 x1 x2) zah (aux _ rfl)
def k91 (x0:Family) (x1:Int) (x2:Int):Cl:=(hres (C91 (za5 x0 x1 x2)),k4 (zhl x0 x1 x2))
def zb2 (x0:Family) (x1:Int) (x2:Int):(List Int):=bif ((!(l1Has x0 x1))||(!(l1Has x0 x2))) then ([]:List Int) else (zeo x0 x1 x2)
theorem zfw (x:Family) (a b:Int):(zeo x a b).length≤x.people.length∧∀ q∈zeo x a b,0≤q∧q<x.people.length∧0≤(l8Up x a).getD q.toNat default∧0≤(l8Up x b).getD q.toNat default:=by
 unfold zeo
 rw [zrq]
 refine zb3 (fun i (v:List Int)=>v.length≤i∧∀ q∈v,0≤q∧q<i∧0≤(l8Up x a).getD q.toNat default∧0≤(l8Up x b).getD q.toNat default) (fun (v:List Int)=>v.length≤x.people.length∧∀ q∈v,0≤q∧q<x.people.length∧0≤(l8Up x a).getD q.toNat default∧0≤(l8Up x b).getD q.toNat default) ⟨Nat.le_refl _,fun q hq=>by simp at hq⟩ (fun i v next hi hv hn=>?_) (fun v hv=>hv)
 have hw:∀ q∈v,0≤q∧q<((i+1:Nat):Int)∧0≤(l8Up x a).getD q.toNat default∧0≤(l8Up x b).getD q.toNat default:=fun q hq=>by have:=hv.2 q hq;omega
 refine zbm (p:=fun (v:List Int)=>v.length≤x.people.length∧∀ q∈v,0≤q∧q<x.people.length∧0≤(l8Up x a).getD q.toNat default∧0≤(l8Up x b).getD q.toNat default) (fun c=>hn _ ⟨by simp;exact hv.1,fun q hq=>?_⟩) (fun _=>hn _ ⟨Nat.le_succ_of_le hv.1,hw⟩)
 simp only [Bool.and_eq_true,decide_eq_true_eq] at c
 rcases List.mem_append.1 hq with hq | hq
 ·exact hw q hq
 ·rw [List.mem_singleton.1 hq];simp only [Int.toNat_natCast];omega
theorem zek (x:Family) (a b:Int) (hp:Par x) (ha:0≤a∧a<x.people.length) (hb:0≤b∧b<x.people.length):za5 x a b=zeo x a b:=by
 unfold za5 zeo
 rw [zc4 x a hp ha,zc4 x b hp hb,zrq]
theorem ze9 {x:Family} {a b:Int} (hf:za4 x=true) (ha:0≤a∧a<x.people.length) (hb:0≤b∧b<x.people.length):zb2 x a b=zeo x a b:=by
 unfold zb2
 rw [(zed x a).2 ⟨ha,hf⟩,(zed x b).2 ⟨hb,hf⟩]
 rfl
theorem zqt {x:Family} {a b:Int} (h:¬ (za4 x=true∧(0≤a∧a<x.people.length)∧0≤b∧b<x.people.length)):zb2 x a b=[]:=by
 unfold zb2
 cases h1:l1Has x a
 ·rfl
 ·cases h2:l1Has x b
  ·rfl
  ·have h1:=(zed x a).1 h1
   have h2:=(zed x b).1 h2
   exact absurd ⟨h1.2,h1.1,h2.1⟩ h
theorem ziz {x : Family} {a b : Int} {k : Nat} (hk : k < (zb2 x a b).length) : (za4 x = true ∧ (0 ≤ a ∧ a < x.people.length) ∧ 0 ≤ b ∧ b < x.people.length) ∧ 0 ≤ (zb2 x a b).getD k default ∧ (zb2 x a b).getD k default < x.people.length ∧
    0≤(l8Up x a).getD ((zb2 x a b).getD k default).toNat default∧0≤(l8Up x b).getD ((zb2 x a b).getD k default).toNat default:=by
 by_cases h:za4 x=true∧(0≤a∧a<x.people.length)∧0≤b∧b<x.people.length
 ·refine ⟨h,?_⟩
  rw [ze9 h.1 h.2.1 h.2.2] at hk ⊢
  exact (zfw x a b).2 _ (zb0 hk)
 ·rw [zqt h] at hk;exact absurd hk (Nat.not_lt_zero _)
theorem zfl {x : Family} {a b : Int} (hp : Par x) (ha : 0 ≤ a ∧ a < x.people.length) (hb : 0 ≤ b ∧ b < x.people.length) {k : Nat} (hk : k < (za5 x a b).length) : 0 ≤ (za5 x a b).getD k default ∧ (za5 x a b).getD k default < x.people.length ∧
    0≤(zbg x a).getD ((za5 x a b).getD k default).toNat default∧0≤(zbg x b).getD ((za5 x a b).getD k default).toNat default:=by
 rw [zek x a b hp ha hb] at hk ⊢
 rw [zc4 x a hp ha,zc4 x b hp hb]
 exact (zfw x a b).2 _ (zb0 hk)
theorem zeq {x:Family} {a b:Int} (hp:Par x) (ha:0≤a∧a<x.people.length) (hb:0≤b∧b<x.people.length):(za5 x a b).length≤x.people.length:=by
 rw [zek x a b hp ha hb];exact (zfw x a b).1
end Go.Proofs.YtaageiiodlfeiaaGreat
