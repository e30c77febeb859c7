import Derived.Test.YtnibbmmljamolaaGreatV7
set_option maxHeartbeats 4000000
set_option linter.unusedSimpArgs false
set_option linter.unusedVariables false
namespace Go.Proofs.YtnibbmmljamolaaGreat
open Go Go.Lite Go.Proofs
inductive Up (x : yc) (p : Int) : Nat → Int → Prop
  |zero:Up x p 0 p
  |step {n:Nat} {a q:Int} (h:Up x p n a) (hq:q∈zam x a):Up x p (n+1) q
structure IsDist(x : yc)(p : Int)(o : List Int) : Prop where
  len:o.length=x.people.length
  no:∀k:Nat,k<x.people.length→o.getD k default<0→o.getD k default=-1∧∀m,¬Up x p m k
  yes:∀k:Nat,k<x.people.length→0≤o.getD k default→Up x p (o.getD k default).toNat k∧∀m,Up x p m k→o.getD k default≤m
theorem IsDist.uniq{x : yc}{p : Int}{o o' : List Int}(h : IsDist x p o)(h' : IsDist x p o') : o = o' := by
 apply List.ext_getElem (by rw[h.len,h'.len]);intro k hk hk';have hkn:k<x.people.length:=by rw[←h.len];exact hk
 have e : o.getD k default = o'.getD k default := by
  rcases Int.lt_or_le (o.getD k default) 0 with c | c
  ·obtain ⟨a1, a2⟩ := h.no k hkn c;rcases Int.lt_or_le (o'.getD k default) 0 with c' | c'
   ·rw [a1, (h'.no k hkn c').1]
   exact absurd (h'.yes k hkn c').1 (a2 _)
  obtain⟨a1,a2⟩:=h.yes k hkn c;rcases Int.lt_or_le (o'.getD k default) 0 with c' | c'
  ·exact absurd a1 ((h'.no k hkn c').2 _)
  obtain⟨b1,b2⟩:=h'.yes k hkn c';have:=a2 _ b1;have:=b2 _ a1;omega
 rw[oi,oi,ol hk,ol hk'] at e;simpa using e
def Par(x:yc):Prop:=∀(k:Nat),k<x.people.length→(x.people.getD k default).father<k∧(x.people.getD k default).mother<k
theorem zlb{α:Type}{l:List α}{q d:α}(h:q∈l):∃k,k<l.length∧l.getD k d=q:=by obtain⟨k,hk,e⟩:=oZ h;exact⟨k,hk,by rw[oi,ol hk,Option.getD_some,e]⟩
theorem zbf{α:Type}{l:List α}{k:Nat}{d:α}(hk:k<l.length):l.getD k d∈l:=by rw[oi,ol hk];exact List.getElem_mem hk
theorem zkv{x:yc}(hp:Par x){a q:Int}(ha:0≤a∧a<x.people.length)(hq:q∈zam x a):0≤q∧q<a:=by obtain⟨k,hk,e⟩:=zlb (d:=default) hq;have h1:=(zcf x a).2 k hk;rw[e] at h1;have h2:=hp a.toNat vdh;omega
theorem Up.rng{x : yc}(hp : Par x){p : Int}(h0 : 0 ≤ p ∧ p < x.people.length){n : Nat}{k : Int}(h : Up x p n k) : 0 ≤ k ∧ k < x.people.length ∧ k + n ≤ p := by
 induction h with
 |zero =>omega
 |step _ hq ih =>have:=zkv hp ⟨ih.1,ih.2.1⟩ hq;omega
theorem zt5{x : yc}(hp : Par x){p : Int}(h0 : 0 ≤ p ∧ p < x.people.length){o : List Int}(hl : o.length = x.people.length)(hm : ∀k : Nat, k < x.people.length → -1 ≤ o.getD k default)(hs : ∀k : Nat, k < x.people.length → 0 ≤ o.getD k default → Up x p (o.getD k default).toNat k)(hz : o.getD p.toNat default = 0)(hr : ∀a : Nat, a < x.people.length → 0 ≤ o.getD a default → ∀q ∈ zam x a, 0 ≤ o.getD q.toNat default ∧ o.getD q.toNat default ≤ o.getD a default + 1) : IsDist x p o := by
 have key : ∀n k, Up x p n k → 0 ≤ o.getD k.toNat default ∧ o.getD k.toNat default ≤ n := by
  intro n k h;induction h with
  |zero =>rw[hz];omega
  |@step n a q h hq ih =>obtain⟨g1,g2,_⟩:=h.rng hp h0;have:=hr a.toNat vdh ih.1 q (by rw[show((a.toNat:Nat):Int)=a by omega];exact hq);omega
 refine⟨hl,fun k hk hc=>⟨by have:=hm k hk;omega,fun m h=>?_⟩,fun k hk hc=>⟨hs k hk hc,fun m h=>?_⟩⟩
 ·have := (key m k h).1; simp only [Int.toNat_natCast] at this; omega
 have:=(key m k h).2;simpa using this
theorem ztz(x : yc)(p : Int)(hp : Par x)(h0 : 0 ≤ p ∧ p < x.people.length) : IsDist x p (l8Up x p) := by
 unfold l8Up;refine za3 (fun i (v:List Int)=>v=List.replicate i (-1)) (IsDist x p) rfl (fun i v next _ hv hn=>hn _ (by rw[hv];exact zjb _ _)) (fun v hv=>?_);subst hv;have hrep:∀k,(List.replicate x.people.length (-1:Int)).getD k default=if k<x.people.length then -1 else 0:=fun k=>zd2 _ _ _ _;refine za8 (fun (s:List Int×Int)=>s.1.length=x.people.length∧-1≤s.2∧s.2<x.people.length∧(∀k:Nat,k<x.people.length→-1≤s.1.getD k default)∧(∀k:Nat,k<x.people.length→0≤s.1.getD k default→Up x p (s.1.getD k default).toNat k)∧s.1.getD p.toNat default=0∧∀a:Nat,a<x.people.length→s.2<a→0≤s.1.getD a default→∀q∈zam x a,0≤s.1.getD q.toNat default∧s.1.getD q.toNat default≤s.1.getD a default+1) (fun s=>(s.2+1).toNat) (IsDist x p) (fun s next hs hn=>?_) _ _ (oH _) ?_
 ·obtain ⟨o, i⟩ := s;obtain ⟨g1, g2, g3, g4, g5, g6, g7⟩ := hs;simp only at g1 g2 g3 g4 g5 g6 g7 hn ⊢;cases c1 : decide (0 ≤ i)
  ·have := oB c1;exact zt5 hp h0 g1 g4 g5 g6 fun a ha => g7 a ha vdh
  have hi0:=om c1;simp only[oE];cases c2:decide (o.getD i.toNat default<0)
  ·have hi1 := oB c2;simp only [oD];refine za3 (fun j (v : List Int) => v.length = x.people.length ∧ (∀ k : Nat, i ≤ k → v.getD k default = o.getD k default) ∧ (∀ k : Nat, k < x.people.length → -1 ≤ v.getD k default) ∧ (∀ k : Nat, k < x.people.length → 0 ≤ v.getD k default → Up x p (v.getD k default).toNat k) ∧ v.getD p.toNat default = 0 ∧ (∀ k : Nat, 0 ≤ o.getD k default → 0 ≤ v.getD k default ∧ v.getD k default ≤ o.getD k default) ∧ ∀ l, l < j → 0 ≤ v.getD ((zam x i).getD l default).toNat default ∧ v.getD ((zam x i).getD l default).toNat default ≤ o.getD i.toNat default + 1) (IsDist x p) ⟨g1, fun _ _ => rfl, g4, g5, g6, fun k hk => ⟨hk, Int.le_refl _⟩, fun l hl => absurd hl (oQ _)⟩ (fun j v next hj hv hn => ?_) (fun v hv => ?_)
   ·obtain ⟨e1, e2, e3, e4, e5, e6, e7⟩ := hv;have hq := zbf (d := default) hj;generalize hqq : (zam x i).getD j default = q at hq;have hqi := zkv hp ⟨hi0, g3⟩ hq;have hvi : v.getD i.toNat default = o.getD i.toNat default := e2 _ vdh;have hui : Up x p (o.getD i.toNat default).toNat i := (by have := g5 i.toNat vdh vdh;rwa [show ((i.toNat : Nat) : Int) = i by omega] at this);refine zaj (p := IsDist x p) (fun c => hn _ ?_) (fun c => hn _ ?_)
    ·rw [hvi] at c ⊢;simp only [oj, ob] at c;refine ⟨by simp [e1], fun k hk => ?_, fun k hk => ?_, fun k hk => ?_, ?_, fun k hk => ?_, fun l hl => ?_⟩
     ·rw [zbc, if_neg vdh]; exact e2 k hk
     ·rw [zbc]; split
      ·omega
      exact e3 k hk
     ·rw [zbc]; split
      ·rename_i e;intro _;rw [show (k : Int) = q by omega, show (o.getD i.toNat default + 1).toNat = (o.getD i.toNat default).toNat + 1 by omega];exact .step hui hq
      exact e4 k hk
     ·rw [zbc]; split
      ·rename_i e; rw [← e.1] at c; omega
      exact e5
     ·have := e6 k hk;rw [zbc]; split
      ·rename_i e; rw [← e.1] at c; omega
      exact this
     rw[zbc];split
     ·omega
     rename_i e;rcases o0 l j with h | h
     ·exact e7 l h
     rw[show l=j by omega,hqq] at e;exact absurd ⟨rfl,vdh⟩ e
    rw[hvi] at c;simp only[zar,oa] at c;refine⟨e1,e2,e3,e4,e5,e6,fun l hl=>?_⟩;rcases o0 l j with h | h
    ·exact e7 l h
    rw[show l=j by omega,hqq];omega
   obtain⟨e1,e2,e3,e4,e5,e6,e7⟩:=hv;refine hn _ ⟨e1,vdh,vdh,e3,e4,e5,fun a ha hia hva q hq=>?_⟩ vcV;have hva:0≤v.getD a default:=hva;have hia:i - 1<a:=hia;show 0≤v.getD q.toNat default∧v.getD q.toNat default≤v.getD a default+1;by_cases e:(a:Int)=i
   ·rw [e] at hq;obtain ⟨l, hl, he⟩ := zlb (d := default) hq;have := e7 l hl;rw [he] at this;rw [e2 a vdh, show a = i.toNat by omega]; exact this
   have ha2:o.getD a default=v.getD a default:=(e2 a vdh).symm;have g:=g7 a ha vdh vdh q hq;have:=e6 q.toNat g.1;omega
  have hi1:=om c2;refine hn _ ⟨g1,vdh,vdh,g4,g5,g6,fun a ha hia hva q hq=>?_⟩ vcV;have hva:0≤o.getD a default:=hva;have hia:i - 1<a:=hia;by_cases e:(a:Int)=i
  ·rw [show a = i.toNat by omega] at hva; omega
  exact g7 a ha vdh hva q hq
 simp only[Ob,List.length_replicate,zbc,hrep];refine⟨trivial,vdh,vdh,fun k hk=>by split<;>simp_all,fun k hk=>?_,by rw[if_pos ⟨trivial,vdh⟩],fun a ha hia=>vdh⟩;split
 ·rename_i e; intro _; rw [show (k : Int) = p by omega]; exact .zero
 intro h;omega
structure Bfs(x : yc)(p : Int)(o t : List Int) : Prop where
  inv:StepsInv x o t
  snd:∀k:Nat,k<x.people.length→0≤o.getD k default→Up x p (o.getD k default).toNat k
  zero:o.getD p.toNat default=0
  mem:∀s∈t,0≤s∧s<x.people.length∧0≤o.getD s.toNat default
  srt:t.Pairwise fun a b=>o.getD a.toNat default≤o.getD b.toNat default
theorem zuj{α : Type}(l : List α) : (l.drop 1).take (l.length - 1) = l.tail := by
 cases l with
 |nil =>rfl
 |cons a l =>simp
theorem zil(x : yc)(p : Int)(hp : Par x)(h0 : 0 ≤ p ∧ p < x.people.length) : IsDist x p (za5 x p) := by
 unfold za5;refine za3 (fun i (v : List Int) => Rg v x.people.length fun k y => k < i → y = -1) (IsDist x p) (Rg.rep fun k hk h => absurd h (oQ _)) (fun i v next _ hv hn => hn _ (zue hv)) (fun v hv => ?_);have hstart := StepsInv.start h0 hv;have hget : ∀k, k < x.people.length → (v.set p.toNat 0).getD k default = if k = p.toNat then 0 else -1 := fun k hk => by
  rw[zbc,hv.len];split
  ·rename_i e; rw [if_pos e.1]
  rename_i e;rw[if_neg (fun q=>e ⟨q,vdh⟩)];exact hv.get k hk hk
 refine za8 (fun (s:List Int×List Int)=>Bfs x p s.1 s.2∧(∀a∈s.2.head?,∀k:Nat,k<x.people.length→s.1.getD k default≤s.1.getD a.toNat default+1)∧∀a:Nat,a<x.people.length→0≤s.1.getD a default→(a:Int) ∉ s.2→∀q∈zam x a,0≤s.1.getD q.toNat default∧s.1.getD q.toNat default≤s.1.getD a default+1) (fun s=>s.2.length+neg s.1) (IsDist x p) (fun s next hs hn=>?_) _ _ (oH _) ?_
 ·obtain ⟨o, t⟩ := s;obtain ⟨b, top, done⟩ := hs;simp only at b top done hn ⊢;cases t with
  |nil =>simp only[oC,Int.ofNat_zero,Int.lt_irrefl,decide_false,oD,Int.natCast_zero];exact zt5 hp h0 b.inv.rg.len (fun k hk=>(b.inv.rg.get k hk).1) b.snd b.zero fun a ha hoa=>done a ha hoa vdj
  |cons a t =>
   have hc:decide (0<(((a :: t).length:Nat):Int))=true:=(by simp only[ow,ob];omega);rw[hc];simp only[oE];have hhd:(a :: t).getD 0 default=a:=rfl;rw[hhd,zdt,zuj,List.tail_cons];obtain⟨ha0,han,hao⟩:=b.mem a vdj;have hsrt:=b.srt;rw[List.pairwise_cons] at hsrt;have top:=top a rfl;have hpop:=(StepsInv.pop b.inv vdj).1;rw[zuj,List.tail_cons] at hpop;have hup:Up x p (o.getD a.toNat default).toNat a:=(by have:=b.snd a.toNat vdh hao;rwa [show((a.toNat:Nat):Int)=a by omega] at this);refine za3 (fun j (v:List Int×List Int)=>Bfs x p v.1 v.2∧v.1.getD a.toNat default=o.getD a.toNat default∧v.2.length+neg v.1=t.length+neg o∧(∀s∈v.2,o.getD a.toNat default≤v.1.getD s.toNat default)∧(∀k:Nat,k<x.people.length→v.1.getD k default≤o.getD a.toNat default+1)∧(∀k:Nat,k<x.people.length→0≤v.1.getD k default→(k:Int) ∉ v.2→(k:Int)≠a→∀q∈zam x k,0≤v.1.getD q.toNat default∧v.1.getD q.toNat default≤v.1.getD k default+1)∧∀l,l<j→0≤v.1.getD ((zam x a).getD l default).toNat default) (IsDist x p) ⟨⟨hpop,b.snd,b.zero,fun s hs=>b.mem s (List.mem_cons_of_mem _ hs),hsrt.2⟩,rfl,rfl,hsrt.1,top,fun k hk hko hkt hka=>done k hk hko (by simp[hkt,hka]),fun l hl=>absurd hl (oQ _)⟩ (fun j v next hj hv hn=>?_) (fun v hv=>?_)
   ·obtain ⟨o1, t1⟩ := v;obtain ⟨c, e1, e2, e3, e4, e5, e6⟩ := hv;simp only at c e1 e2 e3 e4 e5 e6 hn ⊢;have hq := zbf (d := default) hj;generalize hqq : (zam x a).getD j default = q at hq;have hqa := zkv hp ⟨ha0, han⟩ hq;rw [e1];refine zaj (p := IsDist x p) (fun g => hn _ ?_) (fun g => hn _ ?_)
    ·have g := om g;have hpush := StepsInv.push c.inv ⟨ha0, han⟩ hqa g;rw [e1] at hpush;have hqt : q ∉ t1 := fun h => (by have := (c.mem q h).2.2; omega);have hne : ∀ s ∈ t1, s.toNat ≠ q.toNat := fun s hs e => hqt (by rw [show q = s by have := (c.mem s hs).1; omega]; exact hs);have hold : ∀ k : Nat, k ≠ q.toNat → (o1.set q.toNat (o.getD a.toNat default + 1)).getD k default = o1.getD k default := fun k hk => (by rw [zbc, if_neg (fun e => hk e.1)]);have hnew : (o1.set q.toNat (o.getD a.toNat default + 1)).getD q.toNat default = o.getD a.toNat default + 1 := (by rw [zbc, if_pos ⟨rfl, by rw [c.inv.rg.len]; omega⟩]);refine ⟨⟨hpush.1, fun k hk => ?_, ?_, fun s hs => ?_, ?_⟩, ?_, by have := hpush.2; simp only; omega, fun s hs => ?_, fun k hk => ?_, fun k hk hko hkt hka q' hq' => ?_, fun l hl => ?_⟩
     ·by_cases e : k = q.toNat
      ·subst e;intro _;rw [hnew, show ((q.toNat : Nat) : Int) = q by omega, show (o.getD a.toNat default + 1).toNat = (o.getD a.toNat default).toNat + 1 by omega];exact .step hup hq
      rw[hold k e];exact c.snd k hk
     ·have : p.toNat ≠ q.toNat := fun e => (by rw [← e] at g; have := c.zero; omega);rw [hold _ this]; exact c.zero
     ·rcases List.mem_append.1 hs with hs | hs
      ·rw [hold _ (hne s hs)]; exact c.mem s hs
      rw[oT.1 hs,hnew];exact⟨vdh,vdh,vdh⟩
     ·rw [List.pairwise_append];refine ⟨c.srt.imp_of_mem fun {s s'} hs hs' h => by rw [hold _ (hne s hs), hold _ (hne s' hs')]; exact h, List.pairwise_singleton _ _, fun s hs s' hs' => ?_⟩;rw [oT.1 hs', hnew, hold _ (hne s hs)];obtain ⟨m1, m2, _⟩ := c.mem s hs;exact e4 s.toNat vdh
     ·rw [hold _ vdh]; exact e1
     ·rcases List.mem_append.1 hs with hs | hs
      ·rw [hold _ (hne s hs)]; exact e3 s hs
      rw[oT.1 hs,hnew];omega
     ·by_cases e : k = q.toNat
      ·subst e; rw [hnew]; omega
      rw[hold k e];exact e4 k hk
     ·have hkq : k ≠ q.toNat := fun e => hkt (by rw [List.mem_append]; right; rw [oT]; omega);rw [hold k hkq] at hko ⊢;have h9 := e5 k hk hko (fun h => hkt (List.mem_append.2 (.inl h))) hka q' hq';have hq'q : q'.toNat ≠ q.toNat := fun e => (by rw [e] at h9; omega);rw [hold _ hq'q]; exact h9
     by_cases e:((zam x a).getD l default).toNat=q.toNat
     ·rw [e, hnew]; omega
     rw[hold _ e];rcases o0 l j with h | h
     ·exact e6 l h
     rw[show l=j by omega,hqq] at e;exact absurd rfl e
    have g:=oB g;refine⟨c,e1,e2,e3,e4,e5,fun l hl=>?_⟩;rcases o0 l j with h | h
    ·exact e6 l h
    show 0≤o1.getD _ default;rw[show l=j by omega,hqq];omega
   obtain⟨o1,t1⟩:=v;obtain⟨c,e1,e2,e3,e4,e5,e6⟩:=hv;simp only at c e1 e2 e3 e4 e5 e6 hn ⊢;refine hn _ ⟨c,fun h hh k hk=>?_,fun k hk hko hkt q hq=>?_⟩ (by simp only[ow];omega)
   ·have := e3 h (by
      cases t1 with
      |nil=>simp at hh
      |cons y t1=>simp at hh;subst hh;simp)
    have:=e4 k hk;show o1.getD k default≤o1.getD h.toNat default+1;omega
   have hko:0≤o1.getD k default:=hko;have hkt:(k:Int) ∉ t1:=hkt;show 0≤o1.getD q.toNat default∧o1.getD q.toNat default≤o1.getD k default+1;by_cases e:(k:Int)=a
   ·rw [e] at hq;obtain ⟨l, hl, he⟩ := zlb (d := default) hq;have h1 := e6 l hl;rw [he] at h1;have h2 := zkv hp ⟨ha0, han⟩ hq;have h1 : 0 ≤ o1.getD q.toNat default := h1;have := e4 q.toNat vdh;rw [show k = a.toNat by omega, e1];omega
   exact e5 k hk hko hkt e q hq
 refine⟨⟨hstart,fun k hk=>?_,?_,fun s hs=>?_,List.pairwise_singleton _ _⟩,fun a ha k hk=>?_,fun a ha hao hat=>?_⟩
 ·show 0 ≤ (v.set p.toNat 0).getD k default → Up x p ((v.set p.toNat 0).getD k default).toNat k;rw [hget k hk];split
  ·intro _; rw [show (k : Int) = p by omega]; exact .zero
  intro h;omega
 ·show (v.set p.toNat 0).getD p.toNat default = 0;rw [hget _ vdh, if_pos rfl]
 ·have hs : s = p := oT.1 hs;subst hs;refine ⟨h0.1, h0.2, ?_⟩;show 0 ≤ (v.set s.toNat 0).getD s.toNat default;rw [hget _ vdh, if_pos rfl]; omega
 ·have ha : a = p := by simpa using ha.symm
  subst ha;show(v.set a.toNat 0).getD k default≤(v.set a.toNat 0).getD a.toNat default+1;rw[hget k hk,hget _ vdh,if_pos rfl];split<;>omega
 have hao:0≤(v.set p.toNat 0).getD a default:=hao;have hat:(a:Int) ∉ [p]:=hat;rw[hget a ha] at hao;split at hao
 ·exact absurd (oT.2 vdh) hat
 omega
theorem zga(x:yc)(p:Int)(hp:Par x)(h0:0≤p∧p<x.people.length):za5 x p=l8Up x p:=(zil x p hp h0).uniq (ztz x p hp h0)
theorem zb4(x:yc)(p:Int)(hp:Par x)(h0:0≤p∧p<x.people.length):(za5 x p).length=x.people.length:=(zil x p hp h0).len
structure FamP(x : yc)(k : Nat) : Prop where
  name:zb7 (x.people.getD k default).name=true
  sex:1≤(x.people.getD k default).sex∧(x.people.getD k default).sex≤2
  born:0≤(x.people.getD k default).born∧(x.people.getD k default).born≤9999
  died:(x.people.getD k default).died=-1∨(x.people.getD k default).born≤(x.people.getD k default).died∧(x.people.getD k default).died≤9999
  uniq:∀j,j<k→(x.people.getD j default).name≠(x.people.getD k default).name
  fa : (x.people.getD k default).father = -1 ∨ 0 ≤ (x.people.getD k default).father ∧ (x.people.getD k default).father < k ∧ (x.people.getD (x.people.getD k default).father.toNat default).sex = 1 ∧ (x.people.getD (x.people.getD k default).father.toNat default).born < (x.people.getD k default).born ∧
    ((x.people.getD (x.people.getD k default).father.toNat default).died=-1∨(x.people.getD k default).born≤(x.people.getD (x.people.getD k default).father.toNat default).died+1)
  mo : (x.people.getD k default).mother = -1 ∨ 0 ≤ (x.people.getD k default).mother ∧ (x.people.getD k default).mother < k ∧ (x.people.getD (x.people.getD k default).mother.toNat default).sex = 2 ∧ (x.people.getD (x.people.getD k default).mother.toNat default).born < (x.people.getD k default).born ∧
    ((x.people.getD (x.people.getD k default).mother.toNat default).died=-1∨(x.people.getD k default).born≤(x.people.getD (x.people.getD k default).mother.toNat default).died)
structure FamU(x : yc)(k : Nat) : Prop where
  man:0≤(x.unions.getD k default).man∧(x.unions.getD k default).man<x.people.length
  woman:0≤(x.unions.getD k default).woman∧(x.unions.getD k default).woman<x.people.length
  msex:(x.people.getD (x.unions.getD k default).man.toNat default).sex=1
  wsex:(x.people.getD (x.unions.getD k default).woman.toNat default).sex=2
  from0:(x.people.getD (x.unions.getD k default).man.toNat default).born≤(x.unions.getD k default).from0∧(x.people.getD (x.unions.getD k default).woman.toNat default).born≤(x.unions.getD k default).from0∧(x.unions.getD k default).from0≤9999
  to:(x.unions.getD k default).to=-1∨(x.unions.getD k default).from0≤(x.unions.getD k default).to∧(x.unions.getD k default).to≤9999
  mdied:(x.people.getD (x.unions.getD k default).man.toNat default).died=-1∨(x.unions.getD k default).from0≤(x.people.getD (x.unions.getD k default).man.toNat default).died∧(x.unions.getD k default).to≤(x.people.getD (x.unions.getD k default).man.toNat default).died
  wdied:(x.people.getD (x.unions.getD k default).woman.toNat default).died=-1∨(x.unions.getD k default).from0≤(x.people.getD (x.unions.getD k default).woman.toNat default).died∧(x.unions.getD k default).to≤(x.people.getD (x.unions.getD k default).woman.toNat default).died
  uniq:∀j,j<k→(x.unions.getD j default).man=(x.unions.getD k default).man→¬(x.unions.getD j default).woman=(x.unions.getD k default).woman
theorem zvq(x : yc)(k : Nat) : zf1 x k = true ↔ FamU x k := by
 have q0:∀{α:Type} (a b d:α),[a,b].getD 0 d=a:=fun _ _ _=>rfl;have q1:∀{α:Type} (a b d:α),[a,b].getD 1 d=b:=fun _ _ _=>rfl
 have h2 : ∀ {p : Nat → Prop}, (∀ j, j < 2 → p j) ↔ p 0 ∧ p 1 := ⟨fun h => ⟨h 0 vdh, h 1 vdh⟩, fun h j hj => by
   match j,hj with
   |0,_=>exact h.1
   |1,_=>exact h.2⟩
 have e:FamU x k↔(0≤(x.unions.getD k default).man∧(x.unions.getD k default).man<x.people.length)∧(0≤(x.unions.getD k default).woman∧(x.unions.getD k default).woman<x.people.length)∧(x.people.getD (x.unions.getD k default).man.toNat default).sex=1∧(x.people.getD (x.unions.getD k default).woman.toNat default).sex=2∧((x.people.getD (x.unions.getD k default).man.toNat default).born≤(x.unions.getD k default).from0∧(x.people.getD (x.unions.getD k default).woman.toNat default).born≤(x.unions.getD k default).from0∧(x.unions.getD k default).from0≤9999)∧((x.unions.getD k default).to=-1∨(x.unions.getD k default).from0≤(x.unions.getD k default).to∧(x.unions.getD k default).to≤9999)∧((x.people.getD (x.unions.getD k default).man.toNat default).died=-1∨(x.unions.getD k default).from0≤(x.people.getD (x.unions.getD k default).man.toNat default).died∧(x.unions.getD k default).to≤(x.people.getD (x.unions.getD k default).man.toNat default).died)∧((x.people.getD (x.unions.getD k default).woman.toNat default).died=-1∨(x.unions.getD k default).from0≤(x.people.getD (x.unions.getD k default).woman.toNat default).died∧(x.unions.getD k default).to≤(x.people.getD (x.unions.getD k default).woman.toNat default).died)∧(∀j,j<k→(x.unions.getD j default).man=(x.unions.getD k default).man→¬(x.unions.getD j default).woman=(x.unions.getD k default).woman):=⟨fun h=>⟨h.man,h.woman,h.msex,h.wsex,h.from0,h.to,h.mdied,h.wdied,h.uniq⟩,fun ⟨h1,h2,h3,h4,h5,h6,h7,h8,h9⟩=>⟨h1,h2,h3,h4,h5,h6,h7,h8,h9⟩⟩;rw[e];simp only[zf1,zdq,zar,zdb,l1In,oc,oj,zan,not_t_iff,zi5,ob,oa,h2,Int.toNat_natCast,q0,q1,and_true];generalize(∀j,j<k→(x.unions.getD j default).man=(x.unions.getD k default).man→¬(x.unions.getD j default).woman=(x.unions.getD k default).woman)=Z;generalize x.people.getD (x.unions.getD k default).man.toNat default=a;generalize x.people.getD (x.unions.getD k default).woman.toNat default=b;generalize x.unions.getD k default=u;by_cases hz:Z<;>simp only[hz,and_true,and_false];omega
theorem zls{n:Int}(h:-1≤n∧n≤20000):IntKind.wrap .i64 n=n:=zc3 (by simp only[inR];omega)
theorem zmr(x : yc)(k : Nat)(hd : ∀j : Nat, j < k → (x.people.getD j default).died = -1 ∨ 0 ≤ (x.people.getD j default).died ∧ (x.people.getD j default).died ≤ 9999) : zdl x k = true ↔ FamP x k := by
 have hw:∀(q:Int),0≤q→q<k→∀l:Int,0≤l∧l≤1→IntKind.wrap .i64 ((x.people.getD q.toNat default).died+l)=(x.people.getD q.toNat default).died+l:=fun q h0 h1 l hl=>zls (by have:=hd q.toNat vdh;omega);rw[zfs,zg0,zg0];simp only[Int.toNat_natCast];constructor
 ·rintro ⟨h1, h2, h3, h4, h5, h6, h7⟩;refine ⟨h1, h2, h3, h4, h5, h6.imp id fun h => ⟨h.1, h.2.1, h.2.2.1, h.2.2.2.1, ?_⟩, h7.imp id fun h => ⟨h.1, h.2.1, h.2.2.1, h.2.2.2.1, ?_⟩⟩
  ·rw [← hw _ h.1 h.2.1 1 vdh]; exact h.2.2.2.2
  have:=h.2.2.2.2;rw[hw _ h.1 h.2.1 0 vdh] at this;simpa using this
 rintro⟨h1,h2,h3,h4,h5,h6,h7⟩;refine⟨h1,h2,h3,h4,h5,h6.imp id fun h=>⟨h.1,h.2.1,h.2.2.1,h.2.2.2.1,?_⟩,h7.imp id fun h=>⟨h.1,h.2.1,h.2.2.1,h.2.2.2.1,?_⟩⟩
 ·rw [hw _ h.1 h.2.1 1 vdh]; exact h.2.2.2.2
 rw[hw _ h.1 h.2.1 0 vdh];simpa using h.2.2.2.2
theorem zmg(x : yc) : zad x = true ↔ (x.people.length ≤ 40 ∧ x.unions.length ≤ 60) ∧ (∀k : Nat, k < x.people.length → FamP x k) ∧ (∀k : Nat, k < x.people.length → (zat x).getD k default ≤ 10) ∧ ∀k : Nat, k < x.unions.length → FamU x k := by
 rw[zbo];have e1:∀k:Nat,(zf1 x k=true↔FamU x k):=zvq x;simp only[e1];refine and_congr_right fun _=>and_congr_left fun _=>?_;constructor
 ·intro h k hk;refine (zmr x k fun j hj => ?_).1 (h k hk);obtain ⟨_, _, h1, h2, _⟩ := (zfs x j).1 (h j vdh);simp only [Int.toNat_natCast] at h1 h2;omega
 intro h k hk;refine(zmr x k fun j hj=>?_).2 (h k hk);have:=h j vdh;have h1:=this.born;have h2:=this.died;omega
theorem fam_p{x:yc}(h:zad x=true){k:Nat}(hk:k<x.people.length):FamP x k:=((zmg x).1 h).2.1 k hk
theorem fam_u{x:yc}(h:zad x=true){k:Nat}(hk:k<x.unions.length):FamU x k:=((zmg x).1 h).2.2.2 k hk
theorem fam_n{x:yc}(h:zad x=true):x.people.length≤40∧x.unions.length≤60:=((zmg x).1 h).1
theorem zb8{α:Type}{l:List α}{z d:α}{k:Nat}(h:k<l.length):(l++[z]).getD k d=l.getD k d:=by rw[zeb,if_pos h]
theorem zhg{α:Type}{l:List α}{z d:α}{k:Nat}(h:k=l.length):(l++[z]).getD k d=z:=by rw[zeb,if_neg vdh,if_pos h]
theorem zwy(n:Int):inR .i64 (IntKind.wrap .i64 n):=by simp only[inR,IntKind.wrap,IntKind.signed,IntKind.bits];simp;omega
theorem zlq(x m:Int)(k:Nat)(hm:m=k)(hk:k<9223372036854775808):0≤bits .and .i64 x m∧bits .and .i64 x m≤m:=by have h1:(BitVec.ofInt 64 x &&& BitVec.ofInt 64 m).toNat≤k:=(by rw[BitVec.toNat_and];refine Nat.le_trans Nat.and_le_right ?_;subst hm;simp only[BitVec.toNat_ofInt];omega);have e:bits .and .i64 x m=((BitVec.ofInt 64 x &&& BitVec.ofInt 64 m).toNat:Int):=(by show IntKind.wrap .i64 _=_;exact zc3 (n:=((BitVec.ofInt 64 x &&& BitVec.ofInt 64 m).toNat:Int)) (by simp only[inR];omega));rw[e];omega
theorem zi0{l : List Int}(h : ∀y ∈ l, 0 ≤ y ∧ y ≤ 255)(k : Nat) : 0 ≤ l.getD k default ∧ l.getD k default ≤ 255 := by
 rcases o0 k l.length with hk | hk
 ·have := h _ (List.getElem_mem hk);simpa [oi, ol hk] using this
 simp[oi,o7 hk]

theorem IsDist.bd{x : yc}{p : Int}{o : List Int}(h : IsDist x p o)(hp : Par x)(h0 : 0 ≤ p ∧ p < x.people.length)(k : Nat) : -1 ≤ o.getD k default ∧ o.getD k default ≤ p := by
 rcases o0 k x.people.length with hk | hk
 ·rcases Int.lt_or_le (o.getD k default) 0 with c | c
  ·have := (h.no k hk c).1; omega
  have:=((h.yes k hk c).1).rng hp h0;omega
 rw[oi,o7 (by rw[h.len];exact hk)];show -1≤(0:Int)∧(0:Int)≤p;omega
theorem z0v(x:yc)(p:Int)(hp:Par x)(h0:0≤p∧p<x.people.length)(k:Nat):-1≤(l8Up x p).getD k default∧(l8Up x p).getD k default≤p:=(ztz x p hp h0).bd hp h0 k
theorem zem(x:yc)(p:Int)(hp:Par x)(h0:0≤p∧p<x.people.length)(k:Nat):-1≤(za5 x p).getD k default∧(za5 x p).getD k default≤p:=(zil x p hp h0).bd hp h0 k
def zgz(x0:yc)(x1:Int)(x2:Int):(List Int):=loopN (fun i1 (v1:(List Int)) next=>bif((decide (0≤((l8Up x0 x1).getD i1 default)))&&(decide (0≤((l8Up x0 x2).getD i1 default)))) then(next (v1++[((i1:Nat):Int)])) else(next v1)) (fun (v1:(List Int))=>v1) ((l8Up x0 x1).length) 0 ([]:List Int)
def C101(R:(List Int)):LV×List (Nat×BC):=(.own 0,[(0,.arr 1 R.length (rowOf (cInt .i64) R))])
def zaf(x0:yc)(x1:Int)(x2:Int):(List Int):=loopN (fun i1 (v1:(List Int)) next=>bif((decide (0≤((za5 x0 x1).getD i1 default)))&&(decide (0≤((za5 x0 x2).getD i1 default)))) then(next (v1++[((i1:Nat):Int)])) else(next v1)) (fun (v1:(List Int))=>v1) x0.people.length 0 ([]:List Int)
def zye(i1:Nat)(v1:(List Int)):Dl:=⟨[(20,.int .i64 ((i1:Nat):Int)),(9,.own 20009)],[(20009,.arr 1 v1.length (rowOf (cInt .i64) v1))]⟩
def A101b1(x0:yc)(x1:Int)(x2:Int)(i1:Nat)(v1:(List Int)):Ann:=let q1:=((i1:Nat):Int);let q3:=(q1:Int);let q2:=0≤((za5 x0 x1).getD i1 default);r0 1 [6,7,8,9,19,20,21] [1013,1016,20009] (cn (decide (q1<((x0.people.length:Nat):Int))) (.reg 2 [] [] [6,7,8,9,10,19,20,34] [1013,1016,20009] [decide q2] [pf (0≤q3∧q3<(((za5 x0 x1).length:Nat):Int)),gt (decide q2) (pf (0≤q3∧q3<(((za5 x0 x2).length:Nat):Int)))] [] [0,1,1,4,1,1,1] (cn ((decide q2)&&(decide (0≤((za5 x0 x2).getD i1 default)))) (.reg 1 [] [(2,bsC 37 (cInt .i64) ([q1]:List Int)),(3,ap1 38 (cInt .i64) 8 v1 q1)] [6,7,8,9,19,20] [38,1013,1016] [] [] [] [0,4] (r1 1 [6,7,8,9,19,20] [38,1013,1016] [pf (inR .i64 (q1+1))] [0] (.next 0 [(20009,some 38)] (zye (i1+1) (v1++[q1]))))) (r1 1 [6,7,8,9,19,20] [1013,1016,20009] [pf (inR .i64 (q1+1))] [0] (.next 0 [(20009,some 20009)] (zye (i1+1) v1))))) (r0 1 [6] [20009] (rt [(0,some 20009)] (C101 v1))))
def A101(x0:yc)(x1:Int)(x2:Int):Ann:=.reg 3 [] [(1002,k100 x0 x1),(1005,k100 x0 x2)] [3,6,7,8,9] [3,1013,1016] [] [] [] [0,4] (r0 1 [6,7,8,9,19,20] [1013,1016] (lp (zye) [] [] [(20009,none)] (zye 0 ([]:List Int)) (A101b1 x0 x1 x2)))
theorem zh2(x0 : yc)(x1 : Int)(x2 : Int)(hx : x0.people.length ≤ 1048576)(hi : 0 ≤ x1 ∧ x1 < x0.people.length)(hj : 0 ≤ x2 ∧ x2 < x0.people.length)(hp : ∀(k : Nat), k < x0.people.length → (x0.people.getD k default).father < k ∧ (x0.people.getD k default).mother < k) : FnT Tryz.prog 101 [.agg (zaw false x0), .int .i64 x1, .int .i64 x2] (C101 (zaf x0 x1 x2)) := by
 have aux : ∀R, zaf x0 x1 x2 = R → slim (C101 R) (A101 x0 x1 x2) [] := by
  intro R hR;refine rg ⟨⟨vdg,vdg,vdg⟩,⟨vdg,vdg,vdg⟩,trivial⟩ ?_;refine rT ?_;refine lN (fun i v=>v.length≤i) vdg rfl (fun i1 v1 F1 hn1 hI1 hR hK1=>?_) hR;refine rT ?_;refine⟨fun hc1=>?_,fun hc1=>?_⟩
  ·have hii1 : i1 < x0.people.length := vcH;replace hR := zai hR hii1;refine rg ⟨vbU, vbU, trivial⟩ ?_;refine cd (fun hc2 hR => ?_) (fun hc2 hR => ?_) hR
   ·refine rg ⟨trivial, vdh, trivial⟩ ?_;refine rg ⟨vcq, trivial⟩ ?_;exact hK1 (v1 ++ [((i1 : Nat) : Int)]) hii1 (by (simp; omega)) hR
   refine rg ⟨vcx,trivial⟩ ?_;exact hK1 v1 hii1 vc6 hR
  obtain rfl:i1=x0.people.length:=by have:=oB hc1;omega
  replace hR:=zaq hR (oR _);refine rT ?_;exact oe C101 hR
 exact Fn.go 41 Tryz.func101 zaa zaa (by simp[C101,Frs,FrsL,FrsB,rowOf,cInt,cBool,cStr,cSl,zbd,zah,zas,zaw]) (A101 x0 x1 x2) zaa (aux _ rfl)
def k101(x0:yc)(x1:Int)(x2:Int):Cl:=(hres (C101 (zaf x0 x1 x2)),Go.Lite.k4 (zh2 x0 x1 x2))
def zbg(x0:yc)(x1:Int)(x2:Int):(List Int):=bif((!(l1Has x0 x1))||(!(l1Has x0 x2))) then([]:List Int) else(zgz x0 x1 x2)
theorem zgy(x : yc)(a b : Int) : (zgz x a b).length ≤ x.people.length ∧ ∀q ∈ zgz x a b, 0 ≤ q ∧ q < x.people.length ∧ 0 ≤ (l8Up x a).getD q.toNat default ∧ 0 ≤ (l8Up x b).getD q.toNat default := by
 unfold zgz;rw[zxf];refine za3 (fun i (v:List Int)=>v.length≤i∧∀q∈v,0≤q∧q<i∧0≤(l8Up x a).getD q.toNat default∧0≤(l8Up x b).getD q.toNat default) (fun (v:List Int)=>v.length≤x.people.length∧∀q∈v,0≤q∧q<x.people.length∧0≤(l8Up x a).getD q.toNat default∧0≤(l8Up x b).getD q.toNat default) ⟨oz _,fun q hq=>by simp at hq⟩ (fun i v next hi hv hn=>?_) (fun v hv=>hv);have hw:∀q∈v,0≤q∧q<((i+1:Nat):Int)∧0≤(l8Up x a).getD q.toNat default∧0≤(l8Up x b).getD q.toNat default:=fun q hq=>by have:=hv.2 q hq;omega
 refine zaj (p:=fun (v:List Int)=>v.length≤x.people.length∧∀q∈v,0≤q∧q<x.people.length∧0≤(l8Up x a).getD q.toNat default∧0≤(l8Up x b).getD q.toNat default) (fun c=>hn _ ⟨by simp;exact hv.1,fun q hq=>?_⟩) (fun _=>hn _ ⟨Nat.le_succ_of_le hv.1,hw⟩);simp only[oc,ob] at c;rcases List.mem_append.1 hq with hq | hq
 ·exact hw q hq
 rw[oT.1 hq];simp only[Int.toNat_natCast];omega
theorem ze5(x:yc)(a b:Int)(hp:Par x)(ha:0≤a∧a<x.people.length)(hb:0≤b∧b<x.people.length):zaf x a b=zgz x a b:=by unfold zaf zgz;rw[zga x a hp ha,zga x b hp hb,zxf]
theorem zko{x:yc}{a b:Int}(hf:zad x=true)(ha:0≤a∧a<x.people.length)(hb:0≤b∧b<x.people.length):zbg x a b=zgz x a b:=by unfold zbg;rw[(ze0 x a).2 ⟨ha,hf⟩,(ze0 x b).2 ⟨hb,hf⟩];rfl
theorem zrq{x : yc}{a b : Int}(h : ¬(zad x = true ∧ (0 ≤ a ∧ a < x.people.length) ∧ 0 ≤ b ∧ b < x.people.length)) : zbg x a b = [] := by
 unfold zbg;cases h1:l1Has x a
 ·rfl
 cases h2:l1Has x b
 ·rfl
 have h1:=(ze0 x a).1 h1;have h2:=(ze0 x b).1 h2;exact absurd ⟨h1.2,h1.1,h2.1⟩ h
theorem zpo{x : yc}{a b : Int}{k : Nat}(hk : k < (zbg x a b).length) : (zad x = true ∧ (0 ≤ a ∧ a < x.people.length) ∧ 0 ≤ b ∧ b < x.people.length) ∧ 0 ≤ (zbg x a b).getD k default ∧ (zbg x a b).getD k default < x.people.length ∧ 0 ≤ (l8Up x a).getD ((zbg x a b).getD k default).toNat default ∧ 0 ≤ (l8Up x b).getD ((zbg x a b).getD k default).toNat default := by
 by_cases h:zad x=true∧(0≤a∧a<x.people.length)∧0≤b∧b<x.people.length
 ·refine ⟨h, ?_⟩;rw [zko h.1 h.2.1 h.2.2] at hk ⊢;exact (zgy x a b).2 _ (zbf hk)
 rw[zrq h] at hk;exact absurd hk (oQ _)
theorem zht{x:yc}{a b:Int}(hp:Par x)(ha:0≤a∧a<x.people.length)(hb:0≤b∧b<x.people.length){k:Nat}(hk:k<(zaf x a b).length):0≤(zaf x a b).getD k default∧(zaf x a b).getD k default<x.people.length∧0≤(za5 x a).getD ((zaf x a b).getD k default).toNat default∧0≤(za5 x b).getD ((zaf x a b).getD k default).toNat default:=by rw[ze5 x a b hp ha hb] at hk ⊢;rw[zga x a hp ha,zga x b hp hb];exact(zgy x a b).2 _ (zbf hk)
theorem zrd{x:yc}{a b:Int}(hp:Par x)(ha:0≤a∧a<x.people.length)(hb:0≤b∧b<x.people.length):(zaf x a b).length≤x.people.length:=by rw[ze5 x a b hp ha hb];exact(zgy x a b).1
end Go.Proofs.YtnibbmmljamolaaGreat
