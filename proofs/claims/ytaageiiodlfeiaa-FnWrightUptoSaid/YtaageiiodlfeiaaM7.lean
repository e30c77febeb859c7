import Derived.Test.YtaageiiodlfeiaaV7
set_option maxHeartbeats 4000000
set_option linter.unusedSimpArgs false
set_option linter.unusedVariables false
namespace Go.Proofs.Ytaageiiodlfeiaa
open Go Go.Lite Go.Proofs
inductive Up (x : Family) (p : Int) : Nat → Int → Prop
  | zero:Up x p 0 p
  | step {n:Nat} {a q:Int} (h:Up x p n a) (hq:q∈zbj x a):Up x p (n+1) q
structure IsDist (x:Family) (p:Int) (o:List Int):Prop where
 len:o.length=x.people.length
 no:∀ k:Nat,k<x.people.length→o.getD k default<0→o.getD k default=-1∧∀ m,¬ Up x p m k
 yes:∀ k:Nat,k<x.people.length→0≤o.getD k default→Up x p (o.getD k default).toNat k∧∀ m,Up x p m k→o.getD k default≤m
theorem IsDist.uniq {x:Family} {p:Int} {o o':List Int} (h:IsDist x p o) (h':IsDist x p o'):o=o':=by
 apply List.ext_getElem (by rw [h.len,h'.len])
 intro k hk hk'
 have hkn:k<x.people.length:=by rw [← h.len];exact hk
 have e:o.getD k default=o'.getD k default:=by
  rcases Int.lt_or_le (o.getD k default) 0 with c | c
  ·obtain ⟨a1,a2⟩:=h.no k hkn c
   rcases Int.lt_or_le (o'.getD k default) 0 with c' | c'
   ·rw [a1,(h'.no k hkn c').1]
   ·exact absurd (h'.yes k hkn c').1 (a2 _)
  ·obtain ⟨a1,a2⟩:=h.yes k hkn c
   rcases Int.lt_or_le (o'.getD k default) 0 with c' | c'
   ·exact absurd a1 ((h'.no k hkn c').2 _)
   ·obtain ⟨b1,b2⟩:=h'.yes k hkn c'
    have:=a2 _ b1
    have:=b2 _ a1
    omega
 rw [List.getD_eq_getElem?_getD,List.getD_eq_getElem?_getD,List.getElem?_eq_getElem hk,List.getElem?_eq_getElem hk'] at e
 simpa using e
def Par (x:Family):Prop:=∀ (k:Nat),k<x.people.length→(x.people.getD k default).father<k∧(x.people.getD k default).mother<k
theorem zgn {α:Type} {l:List α} {q d:α} (h:q∈l):∃ k,k<l.length∧l.getD k d=q:=by
 obtain ⟨k,hk,e⟩:=List.getElem_of_mem h
 exact ⟨k,hk,by rw [List.getD_eq_getElem?_getD,List.getElem?_eq_getElem hk,Option.getD_some,e]⟩
theorem zde {α:Type} {l:List α} {k:Nat} {d:α} (hk:k<l.length):l.getD k d∈l:=by
 rw [List.getD_eq_getElem?_getD,List.getElem?_eq_getElem hk];exact List.getElem_mem hk
theorem zj2 {x:Family} (hp:Par x) {a q:Int} (ha:0≤a∧a<x.people.length) (hq:q∈zbj x a):0≤q∧q<a:=by
 obtain ⟨k,hk,e⟩:=zgn (d:=default) hq
 have h1:=(zck x a).2 k hk
 rw [e] at h1
 have h2:=hp a.toNat om
 omega
theorem Up.rng {x:Family} (hp:Par x) {p:Int} (h0:0≤p∧p<x.people.length) {n:Nat} {k:Int} (h:Up x p n k):0≤k∧k<x.people.length∧k+n≤p:=by
 induction h with
 | zero=>omega
 | step _ hq ih=>have:=zj2 hp ⟨ih.1,ih.2.1⟩ hq;omega
theorem zrv {x : Family} (hp : Par x) {p : Int} (h0 : 0 ≤ p ∧ p < x.people.length) {o : List Int} (hl : o.length = x.people.length) (hm : ∀ k : Nat, k < x.people.length → -1 ≤ o.getD k default) (hs : ∀ k : Nat, k < x.people.length → 0 ≤ o.getD k default → Up x p (o.getD k default).toNat k)
    (hz:o.getD p.toNat default=0) (hr:∀ a:Nat,a<x.people.length→0≤o.getD a default→∀ q∈zbj x a,0≤o.getD q.toNat default∧o.getD q.toNat default≤o.getD a default+1):IsDist x p o:=by
 have key:∀ n k,Up x p n k→0≤o.getD k.toNat default∧o.getD k.toNat default≤n:=by
  intro n k h
  induction h with
  | zero=>rw [hz];omega
  | @step n a q h hq ih =>
   obtain ⟨g1,g2,_⟩:=h.rng hp h0
   have:=hr a.toNat om ih.1 q (by rw [show ((a.toNat:Nat):Int)=a by omega];exact hq)
   omega
 refine ⟨hl,fun k hk hc=>⟨by have:=hm k hk;omega,fun m h=>?_⟩,fun k hk hc=>⟨hs k hk hc,fun m h=>?_⟩⟩
 ·have:=(key m k h).1;simp only [Int.toNat_natCast] at this;omega
 ·have:=(key m k h).2;simpa using this
theorem znf (x:Family) (p:Int) (hp:Par x) (h0:0≤p∧p<x.people.length):IsDist x p (l8Up x p):=by
 unfold l8Up
 refine zcc (fun i (v:List Int)=>v=List.replicate i (-1)) (IsDist x p) rfl (fun i v next _ hv hn=>hn _ (by rw [hv];exact zgj _ _)) (fun v hv=>?_)
 subst hv
 have hrep:∀ k,(List.replicate x.people.length (-1:Int)).getD k default=if k<x.people.length then -1 else 0:=fun k=>zf1 _ _ _ _
 refine zcj (fun (s : List Int × Int) => s.1.length = x.people.length ∧ -1 ≤ s.2 ∧ s.2 < x.people.length ∧ (∀ k : Nat, k < x.people.length → -1 ≤ s.1.getD k default) ∧ (∀ k : Nat, k < x.people.length → 0 ≤ s.1.getD k default → Up x p (s.1.getD k default).toNat k) ∧
     s.1.getD p.toNat default=0∧∀ a:Nat,a<x.people.length→s.2<a→0≤s.1.getD a default→∀ q∈zbj x a,0≤s.1.getD q.toNat default∧s.1.getD q.toNat default≤s.1.getD a default+1)
  (fun s=>(s.2+1).toNat) (IsDist x p) (fun s next hs hn=>?_) _ _ (Nat.lt_succ_self _) ?_
 ·obtain ⟨o,i⟩:=s
  obtain ⟨g1,g2,g3,g4,g5,g6,g7⟩:=hs
  simp only at g1 g2 g3 g4 g5 g6 g7 hn ⊢
  cases c1:decide (0≤i)
  ·have:=of_decide_eq_false c1
   exact zrv hp h0 g1 g4 g5 g6 fun a ha=>g7 a ha om
  ·have hi0:=of_decide_eq_true c1
   simp only [cond_true]
   cases c2:decide (o.getD i.toNat default<0)
   ·have hi1:=of_decide_eq_false c2
    simp only [cond_false]
    refine zcc (fun j (v : List Int) => v.length = x.people.length ∧ (∀ k : Nat, i ≤ k → v.getD k default = o.getD k default) ∧ (∀ k : Nat, k < x.people.length → -1 ≤ v.getD k default) ∧ (∀ k : Nat, k < x.people.length → 0 ≤ v.getD k default → Up x p (v.getD k default).toNat k) ∧
      v.getD p.toNat default=0∧(∀ k:Nat,0≤o.getD k default→0≤v.getD k default∧v.getD k default≤o.getD k default)∧∀ l,l<j→0≤v.getD ((zbj x i).getD l default).toNat default∧v.getD ((zbj x i).getD l default).toNat default≤o.getD i.toNat default+1)
      (IsDist x p) ⟨g1,fun _ _=>rfl,g4,g5,g6,fun k hk=>⟨hk,Int.le_refl _⟩,fun l hl=>absurd hl (Nat.not_lt_zero _)⟩ (fun j v next hj hv hn=>?_) (fun v hv=>?_)
    ·obtain ⟨e1,e2,e3,e4,e5,e6,e7⟩:=hv
     have hq:=zde (d:=default) hj
     generalize hqq:(zbj x i).getD j default=q at hq
     have hqi:=zj2 hp ⟨hi0,g3⟩ hq
     have hvi:v.getD i.toNat default=o.getD i.toNat default:=e2 _ om
     have hui:Up x p (o.getD i.toNat default).toNat i:=by
      have:=g5 i.toNat om om
      rwa [show ((i.toNat:Nat):Int)=i by omega] at this
     refine zbz (p:=IsDist x p) (fun c=>hn _ ?_) (fun c=>hn _ ?_)
     ·rw [hvi] at c ⊢
      simp only [Bool.or_eq_true,decide_eq_true_eq] at c
      refine ⟨by simp [e1],fun k hk=>?_,fun k hk=>?_,fun k hk=>?_,?_,fun k hk=>?_,fun l hl=>?_⟩
      ·rw [zcz,if_neg om];exact e2 k hk
      ·rw [zcz];split
       ·omega
       ·exact e3 k hk
      ·rw [zcz];split
       ·rename_i e
        intro _
        rw [show (k:Int)=q by omega,show (o.getD i.toNat default+1).toNat=(o.getD i.toNat default).toNat+1 by omega]
        exact .step hui hq
       ·exact e4 k hk
      ·rw [zcz];split
       ·rename_i e;rw [← e.1] at c;omega
       ·exact e5
      ·have:=e6 k hk
       rw [zcz];split
       ·rename_i e;rw [← e.1] at c;omega
       ·exact this
      ·rw [zcz];split
       ·omega
       ·rename_i e
        rcases Nat.lt_or_ge l j with h | h
        ·exact e7 l h
        ·rw [show l=j by omega,hqq] at e;exact absurd ⟨rfl,om⟩ e
     ·rw [hvi] at c
      simp only [zbr,decide_eq_false_iff_not] at c
      refine ⟨e1,e2,e3,e4,e5,e6,fun l hl=>?_⟩
      rcases Nat.lt_or_ge l j with h | h
      ·exact e7 l h
      ·rw [show l=j by omega,hqq];omega
    ·obtain ⟨e1,e2,e3,e4,e5,e6,e7⟩:=hv
     refine hn _ ⟨e1,om,om,e3,e4,e5,fun a ha hia hva q hq=>?_⟩ zbd
     have hva:0≤v.getD a default:=hva
     have hia:i - 1<a:=hia
     show 0≤v.getD q.toNat default∧v.getD q.toNat default≤v.getD a default+1
     by_cases e:(a:Int)=i
     ·rw [e] at hq
      obtain ⟨l,hl,he⟩:=zgn (d:=default) hq
      have:=e7 l hl
      rw [he] at this
      rw [e2 a om,show a=i.toNat by omega];exact this
     ·have ha2:o.getD a default=v.getD a default:=(e2 a om).symm
      have g:=g7 a ha om om q hq
      have:=e6 q.toNat g.1
      omega
   ·have hi1:=of_decide_eq_true c2
    refine hn _ ⟨g1,om,om,g4,g5,g6,fun a ha hia hva q hq=>?_⟩ zbd
    have hva:0≤o.getD a default:=hva
    have hia:i - 1<a:=hia
    by_cases e:(a:Int)=i
    ·rw [show a=i.toNat by omega] at hva;omega
    ·exact g7 a ha om hva q hq
 ·simp only [List.length_set,List.length_replicate,zcz,hrep]
  refine ⟨trivial,om,om,fun k hk=>by split<;>simp_all,fun k hk=>?_,by rw [if_pos ⟨trivial,om⟩],fun a ha hia=>by omega⟩
  split
  ·rename_i e;intro _;rw [show (k:Int)=p by omega];exact .zero
  ·intro h;omega
structure Bfs (x:Family) (p:Int) (o t:List Int):Prop where
 inv:StepsInv x o t
 snd:∀ k:Nat,k<x.people.length→0≤o.getD k default→Up x p (o.getD k default).toNat k
 zero:o.getD p.toNat default=0
 mem:∀ s∈t,0≤s∧s<x.people.length∧0≤o.getD s.toNat default
 srt:t.Pairwise fun a b=>o.getD a.toNat default≤o.getD b.toNat default
theorem zr4 {α:Type} (l:List α):(l.drop 1).take (l.length - 1)=l.tail:=by
 cases l with
 | nil=>rfl
 | cons a l=>simp
theorem zk7 (x:Family) (p:Int) (hp:Par x) (h0:0≤p∧p<x.people.length):IsDist x p (zet x p):=by
 unfold zet
 refine zcc (fun i (v:List Int)=>Rg v x.people.length fun k y=>k<i→y=-1) (IsDist x p) (Rg.rep fun k hk h=>absurd h (Nat.not_lt_zero _)) (fun i v next _ hv hn=>hn _ (zr1 hv)) (fun v hv=>?_)
 have hstart:=StepsInv.start h0 hv
 have hget:∀ k,k<x.people.length→(v.set p.toNat 0).getD k default=if k=p.toNat then 0 else -1:=fun k hk=>by
  rw [zcz,hv.len]
  split
  ·rename_i e;rw [if_pos e.1]
  ·rename_i e;rw [if_neg (fun q=>e ⟨q,om⟩)];exact hv.get k hk hk
 refine zcj (fun (s : List Int × List Int) => Bfs x p s.1 s.2 ∧ (∀ a ∈ s.2.head?, ∀ k : Nat, k < x.people.length → s.1.getD k default ≤ s.1.getD a.toNat default + 1) ∧
     ∀ a:Nat,a<x.people.length→0≤s.1.getD a default→(a:Int) ∉ s.2→∀ q∈zbj x a,0≤s.1.getD q.toNat default∧s.1.getD q.toNat default≤s.1.getD a default+1)
  (fun s=>s.2.length+neg s.1) (IsDist x p) (fun s next hs hn=>?_) _ _ (Nat.lt_succ_self _) ?_
 ·obtain ⟨o,t⟩:=s
  obtain ⟨b,top,done⟩:=hs
  simp only at b top done hn ⊢
  cases t with
  | nil =>
   simp only [List.length_nil,Int.ofNat_zero,Int.lt_irrefl,decide_false,cond_false,Int.natCast_zero]
   exact zrv hp h0 b.inv.rg.len (fun k hk=>(b.inv.rg.get k hk).1) b.snd b.zero fun a ha hoa=>done a ha hoa zaz
  | cons a t =>
   have hc:decide (0<(((a :: t).length:Nat):Int))=true:=by simp only [List.length_cons,decide_eq_true_eq];omega
   rw [hc]
   simp only [cond_true]
   have hhd:(a :: t).getD 0 default=a:=rfl
   rw [hhd,zey,zr4,List.tail_cons]
   obtain ⟨ha0,han,hao⟩:=b.mem a zaz
   have hsrt:=b.srt
   rw [List.pairwise_cons] at hsrt
   have top:=top a rfl
   have hpop:=(StepsInv.pop b.inv zaz).1
   rw [zr4,List.tail_cons] at hpop
   have hup:Up x p (o.getD a.toNat default).toNat a:=by
    have:=b.snd a.toNat om hao
    rwa [show ((a.toNat:Nat):Int)=a by omega] at this
   refine zcc (fun j (v : List Int × List Int) => Bfs x p v.1 v.2 ∧ v.1.getD a.toNat default = o.getD a.toNat default ∧ v.2.length + neg v.1 = t.length + neg o ∧ (∀ s ∈ v.2, o.getD a.toNat default ≤ v.1.getD s.toNat default) ∧ (∀ k : Nat, k < x.people.length → v.1.getD k default ≤ o.getD a.toNat default + 1) ∧
       (∀ k:Nat,k<x.people.length→0≤v.1.getD k default→(k:Int) ∉ v.2→(k:Int)≠a→∀ q∈zbj x k,0≤v.1.getD q.toNat default∧v.1.getD q.toNat default≤v.1.getD k default+1) ∧
       ∀ l,l<j→0≤v.1.getD ((zbj x a).getD l default).toNat default)
    (IsDist x p) ⟨⟨hpop,b.snd,b.zero,fun s hs=>b.mem s (List.mem_cons_of_mem _ hs),hsrt.2⟩,rfl,rfl,hsrt.1,top,fun k hk hko hkt hka=>done k hk hko (by simp [hkt,hka]),fun l hl=>absurd hl (Nat.not_lt_zero _)⟩ (fun j v next hj hv hn=>?_) (fun v hv=>?_)
   ·obtain ⟨o1,t1⟩:=v
    obtain ⟨c,e1,e2,e3,e4,e5,e6⟩:=hv
    simp only at c e1 e2 e3 e4 e5 e6 hn ⊢
    have hq:=zde (d:=default) hj
    generalize hqq:(zbj x a).getD j default=q at hq
    have hqa:=zj2 hp ⟨ha0,han⟩ hq
    rw [e1]
    refine zbz (p:=IsDist x p) (fun g=>hn _ ?_) (fun g=>hn _ ?_)
    ·have g:=of_decide_eq_true g
     have hpush:=StepsInv.push c.inv ⟨ha0,han⟩ hqa g
     rw [e1] at hpush
     have hqt:q ∉ t1:=fun h=>by have:=(c.mem q h).2.2;omega
     have hne:∀ s∈t1,s.toNat≠q.toNat:=fun s hs e=>hqt (by rw [show q=s by have:=(c.mem s hs).1;omega];exact hs)
     have hold:∀ k:Nat,k≠q.toNat→(o1.set q.toNat (o.getD a.toNat default+1)).getD k default=o1.getD k default:=fun k hk=>by rw [zcz,if_neg (fun e=>hk e.1)]
     have hnew:(o1.set q.toNat (o.getD a.toNat default+1)).getD q.toNat default=o.getD a.toNat default+1:=by rw [zcz,if_pos ⟨rfl,by rw [c.inv.rg.len];omega⟩]
     refine ⟨⟨hpush.1,fun k hk=>?_,?_,fun s hs=>?_,?_⟩,?_,by have:=hpush.2;simp only;omega,fun s hs=>?_,fun k hk=>?_,fun k hk hko hkt hka q' hq'=>?_,fun l hl=>?_⟩
     ·by_cases e:k=q.toNat
      ·subst e
       intro _
       rw [hnew,show ((q.toNat:Nat):Int)=q by omega,show (o.getD a.toNat default+1).toNat=(o.getD a.toNat default).toNat+1 by omega]
       exact .step hup hq
      ·rw [hold k e];exact c.snd k hk
     ·have:p.toNat≠q.toNat:=fun e=>by rw [← e] at g;have:=c.zero;omega
      rw [hold _ this];exact c.zero
     ·rcases List.mem_append.1 hs with hs | hs
      ·rw [hold _ (hne s hs)];exact c.mem s hs
      ·rw [List.mem_singleton.1 hs,hnew];exact ⟨om,om,om⟩
     ·rw [List.pairwise_append]
      refine ⟨c.srt.imp_of_mem fun {s s'} hs hs' h=>by rw [hold _ (hne s hs),hold _ (hne s' hs')];exact h,List.pairwise_singleton _ _,fun s hs s' hs'=>?_⟩
      rw [List.mem_singleton.1 hs',hnew,hold _ (hne s hs)]
      obtain ⟨m1,m2,_⟩:=c.mem s hs
      exact e4 s.toNat om
     ·rw [hold _ om];exact e1
     ·rcases List.mem_append.1 hs with hs | hs
      ·rw [hold _ (hne s hs)];exact e3 s hs
      ·rw [List.mem_singleton.1 hs,hnew];omega
     ·by_cases e:k=q.toNat
      ·subst e;rw [hnew];omega
      ·rw [hold k e];exact e4 k hk
     ·have hkq:k≠q.toNat:=fun e=>hkt (by rw [List.mem_append];right;rw [List.mem_singleton];omega)
      rw [hold k hkq] at hko ⊢
      have h9:=e5 k hk hko (fun h=>hkt (List.mem_append.2 (.inl h))) hka q' hq'
      have hq'q:q'.toNat≠q.toNat:=fun e=>by rw [e] at h9;omega
      rw [hold _ hq'q];exact h9
     ·by_cases e:((zbj x a).getD l default).toNat=q.toNat
      ·rw [e,hnew];omega
      ·rw [hold _ e]
       rcases Nat.lt_or_ge l j with h | h
       ·exact e6 l h
       ·rw [show l=j by omega,hqq] at e;exact absurd rfl e
    ·have g:=of_decide_eq_false g
     refine ⟨c,e1,e2,e3,e4,e5,fun l hl=>?_⟩
     rcases Nat.lt_or_ge l j with h | h
     ·exact e6 l h
     ·show 0≤o1.getD _ default
      rw [show l=j by omega,hqq];omega
   ·obtain ⟨o1,t1⟩:=v
    obtain ⟨c,e1,e2,e3,e4,e5,e6⟩:=hv
    simp only at c e1 e2 e3 e4 e5 e6 hn ⊢
    refine hn _ ⟨c,fun h hh k hk=>?_,fun k hk hko hkt q hq=>?_⟩ (by simp only [List.length_cons];omega)
    ·have := e3 h (by
       cases t1 with
       | nil=>simp at hh
       | cons y t1=>simp at hh;subst hh;simp)
     have:=e4 k hk
     show o1.getD k default≤o1.getD h.toNat default+1
     omega
    ·have hko:0≤o1.getD k default:=hko
     have hkt:(k:Int) ∉ t1:=hkt
     show 0≤o1.getD q.toNat default∧o1.getD q.toNat default≤o1.getD k default+1
     by_cases e:(k:Int)=a
     ·rw [e] at hq
      obtain ⟨l,hl,he⟩:=zgn (d:=default) hq
      have h1:=e6 l hl
      rw [he] at h1
      have h2:=zj2 hp ⟨ha0,han⟩ hq
      have h1:0≤o1.getD q.toNat default:=h1
      have:=e4 q.toNat om
      rw [show k=a.toNat by omega,e1]
      omega
     ·exact e5 k hk hko hkt e q hq
 ·refine ⟨⟨hstart,fun k hk=>?_,?_,fun s hs=>?_,List.pairwise_singleton _ _⟩,fun a ha k hk=>?_,fun a ha hao hat=>?_⟩
  ·show 0≤(v.set p.toNat 0).getD k default→Up x p ((v.set p.toNat 0).getD k default).toNat k
   rw [hget k hk]
   split
   ·intro _;rw [show (k:Int)=p by omega];exact .zero
   ·intro h;omega
  ·show (v.set p.toNat 0).getD p.toNat default=0
   rw [hget _ om,if_pos rfl]
  ·have hs:s=p:=List.mem_singleton.1 hs
   subst hs
   refine ⟨h0.1,h0.2,?_⟩
   show 0≤(v.set s.toNat 0).getD s.toNat default
   rw [hget _ om,if_pos rfl];omega
  ·have ha:a=p:=by simpa using ha.symm
   subst ha
   show (v.set a.toNat 0).getD k default≤(v.set a.toNat 0).getD a.toNat default+1
   rw [hget k hk,hget _ om,if_pos rfl]
   split<;>omega
  ·have hao:0≤(v.set p.toNat 0).getD a default:=hao
   have hat:(a:Int) ∉ [p]:=hat
   rw [hget a ha] at hao
   split at hao
   ·exact absurd (List.mem_singleton.2 om) hat
   ·omega
theorem zon (x:Family) (p:Int) (hp:Par x) (h0:0≤p∧p<x.people.length):zet x p=l8Up x p:=(zk7 x p hp h0).uniq (znf x p hp h0)
theorem zho (x:Family) (p:Int) (hp:Par x) (h0:0≤p∧p<x.people.length):(zet x p).length=x.people.length:=(zk7 x p hp h0).len
end Go.Proofs.Ytaageiiodlfeiaa
