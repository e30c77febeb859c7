import Derived.Test.YtlinnkjieghmhaaGreatDoorM191
set_option maxHeartbeats 4000000
set_option linter.unusedSimpArgs false
set_option linter.unusedVariables false
namespace Go.Proofs.YtlinnkjieghmhaaGreatDoor
open Go Go.Lite Go.Proofs
theorem Srt.sub {α:Type} [Inhabited α] {R:α→α→Bool} {a b c d:Int} {l:List α} (h:Srt R a b l) (h1:a≤c) (h2:d≤b):Srt R c d l:=fun i j g1 g2 g3=>h i j om g2 om
theorem Srt.same {α:Type} [Inhabited α] {R:α→α→Bool} {a b:Int} {l m:List α} (h:Srt R a b l) (he:∀ k,a≤k→k<b→gi m k=gi l k):Srt R a b m:=fun i j g1 g2 g3=>by rw [he i g1 om,he j om g3];exact h i j g1 g2 g3
theorem z0g {α:Type} [Inhabited α] {R:α→α→Bool} (hR:SWO R) {l:List α} {a b:Int} (h:0≤a∧a≤b∧b≤l.length):MrgOk R a b l (gIns R l a b)∧Srt R a b (gIns R l a b):=by
 suffices key:(fun r:List α=>MrgOk R a b l r∧Srt R a b r) (gIns R l a b) from key
 unfold gIns
 refine zcu (fun v=>a+1≤v.1∧MrgOk R a b l v.2∧Srt R a v.1 v.2) (fun v=>(b - v.1).toNat) (fun r=>MrgOk R a b l r∧Srt R a b r) (fun v next hv hn=>?_) _ _ zaq ⟨Int.le_refl _,.refl R a b l,fun i j g1 g2 g3=>by dsimp only at g3;omega⟩
 obtain ⟨h1,h2,h3⟩:=hv
 refine zbe (p:=fun r=>MrgOk R a b l r∧Srt R a b r) (fun hc=>?_) (fun hc=>⟨h2,h3.sub (Int.le_refl _) zay⟩)
 have hc:=of_decide_eq_true hc
 refine zcu (fun w=>(a≤w.1∧w.1≤v.1)∧MrgOk R a b l w.2∧InsI R a v.1 w.1 w.2) (fun w=>w.1.toNat) (fun r=>MrgOk R a b l r∧Srt R a b r) (fun w next2 hw hn2=>?_) _ _ zaq ⟨by dsimp only;omega,h2,InsI.start om h3⟩
 obtain ⟨g1,g2,g3⟩:=hw
 have hl:=g2.len
 refine zbe (p:=fun r=>MrgOk R a b l r∧Srt R a b r) (fun hd=>?_) (fun hd=>hn _ ⟨by dsimp only;omega,g2,InsI.done hR g3 fun hj=>?_⟩ zaq)
 ·simp only [Bool.and_eq_true,decide_eq_true_eq] at hd
  refine hn2 _ ⟨by dsimp only;omega,g2.trans (zut hR (k:=w.1 - 1) om ?_ (.inr ⟨om,rfl⟩)),InsI.step hR g3 h.1 om hd.1 hd.2⟩ zaq
  rw [show w.1 - 1+1=w.1 by omega];exact hd.2
 ·rw [decide_eq_true hj,Bool.true_and] at hd;exact hd
theorem z2i {α : Type} [Inhabited α] {R : α → α → Bool} (hR : SWO R) {l : List α} {a b j : Int} (h : 0 ≤ a ∧ a + 1 < b ∧ b ≤ l.length) (hs : Srt R (a + 1) b l) (hj : a + 1 ≤ j ∧ j ≤ b) (h1 : ∀ q, a + 1 ≤ q → q < j → R (gi l q) (gi l a) = true) (h2 : ∀ q, j ≤ q → q < b → R (gi l q) (gi l a) = false) :
    MrgOk R a b l (loopW (fun (v2:Int×(List α)) next=>bif (decide (v2.1<(j - 1))) then (next (v2.1+1,(swp v2.2 v2.1 (v2.1+1)))) else v2.2) ((j - a).toNat+1) (a,l))∧Srt R a b (loopW (fun (v2:Int×(List α)) next=>bif (decide (v2.1<(j - 1))) then (next (v2.1+1,(swp v2.2 v2.1 (v2.1+1)))) else v2.2) ((j - a).toNat+1) (a,l)):=by
 suffices key:(fun r:List α=>MrgOk R a b l r∧Srt R a b r) (loopW (fun (v2:Int×(List α)) next=>bif (decide (v2.1<(j - 1))) then (next (v2.1+1,(swp v2.2 v2.1 (v2.1+1)))) else v2.2) ((j - a).toNat+1) (a,l)) from key
 refine zcu (fun v => (a ≤ v.1 ∧ v.1 ≤ j - 1) ∧ MrgOk R a b l v.2 ∧ ∀ q, 0 ≤ q → gi v.2 q = if a ≤ q ∧ q < v.1 then gi l (q + 1) else if q = v.1 then gi l a else gi l q) (fun v => (j - v.1).toNat) (fun r => MrgOk R a b l r ∧ Srt R a b r) (fun v next hv hn => ?_) _ _ (by dsimp only; omega)
   ⟨by dsimp only;omega,.refl R a b l,fun q hq=>by
     dsimp only
     rw [if_neg om]
     by_cases c:q=a
     · rw [if_pos c,c]
     · rw [if_neg c]⟩
 obtain ⟨k,v⟩:=v
 dsimp only at hv hn ⊢
 obtain ⟨hk,hm,hg⟩:=hv
 have hl:=hm.len
 by_cases c:k<j - 1
 ·rw [decide_eq_true c]
  simp only [cond_true]
  have e1:gi v k=gi l a:=by rw [hg k om,if_neg om,if_pos rfl]
  have e2:gi v (k+1)=gi l (k+1):=by rw [hg (k+1) om,if_neg om,if_neg om]
  refine hn _ ⟨by dsimp only;omega,hm.trans (zut hR (k:=k) om (by rw [e1,e2];exact h1 _ om om) (.inl ⟨rfl,rfl⟩)),fun q hq=>?_⟩ zaq
  dsimp only
  rw [ztr v k (k+1) q om om hq]
  by_cases c1:q=k+1
  ·rw [if_pos c1,e1,if_neg om,if_pos c1]
  ·rw [if_neg c1]
   by_cases c2:q=k
   ·rw [if_pos c2,e2,if_pos om,c2]
   ·rw [if_neg c2,hg q hq]
    by_cases c3:a≤q∧q<k
    ·rw [if_pos c3,if_pos om]
    ·rw [if_neg c3,if_neg c2,if_neg om,if_neg c1]
 ·rw [decide_eq_false c]
  simp only [cond_false]
  refine ⟨hm,fun p q g1 g2 g3=>?_⟩
  have hkj:k=j - 1:=by omega
  rw [hg p om,hg q om]
  by_cases c1:p<k
  ·rw [if_pos (show a≤p∧p<k by omega)]
   by_cases c2:q<k
   ·rw [if_pos om];exact hs _ _ om om om
   ·rw [if_neg om]
    by_cases c3:q=k
    ·rw [if_pos c3];exact hR.asym _ _ (h1 _ om om)
    ·rw [if_neg c3];exact hs _ _ om om om
  ·rw [if_neg (show ¬ (a≤p∧p<k) by omega),if_neg (show ¬ (a≤q∧q<k) by omega),if_neg (show ¬ q=k by omega)]
   by_cases c3:p=k
   ·rw [if_pos c3];exact h2 _ om g3
   ·rw [if_neg c3];exact hs _ _ om g2 g3
theorem z0d {α : Type} [Inhabited α] {R : α → α → Bool} (hR : SWO R) {l : List α} {a d j : Int} (h : 0 ≤ a ∧ a < d ∧ d + 1 ≤ l.length) (hs : Srt R a d l) (hj : a ≤ j ∧ j ≤ d) (h1 : ∀ q, a ≤ q → q < j → R (gi l d) (gi l q) = false) (h2 : ∀ q, j ≤ q → q < d → R (gi l d) (gi l q) = true) :
    MrgOk R a (d+1) l (loopW (fun (v4:Int×(List α)) next=>bif (decide (j<v4.1)) then (next (v4.1 - 1,(swp v4.2 v4.1 (v4.1 - 1)))) else v4.2) ((d - j).toNat+1) (d,l))∧Srt R a (d+1) (loopW (fun (v4:Int×(List α)) next=>bif (decide (j<v4.1)) then (next (v4.1 - 1,(swp v4.2 v4.1 (v4.1 - 1)))) else v4.2) ((d - j).toNat+1) (d,l)):=by
 suffices key:(fun r:List α=>MrgOk R a (d+1) l r∧Srt R a (d+1) r) (loopW (fun (v4:Int×(List α)) next=>bif (decide (j<v4.1)) then (next (v4.1 - 1,(swp v4.2 v4.1 (v4.1 - 1)))) else v4.2) ((d - j).toNat+1) (d,l)) from key
 refine zcu (fun v => (j ≤ v.1 ∧ v.1 ≤ d) ∧ MrgOk R a (d + 1) l v.2 ∧ ∀ q, 0 ≤ q → gi v.2 q = if v.1 < q ∧ q ≤ d then gi l (q - 1) else if q = v.1 then gi l d else gi l q) (fun v => (v.1 - j).toNat) (fun r => MrgOk R a (d + 1) l r ∧ Srt R a (d + 1) r) (fun v next hv hn => ?_) _ _ (by dsimp only; omega)
   ⟨by dsimp only;omega,.refl R a (d+1) l,fun q hq=>by
     dsimp only
     rw [if_neg om]
     by_cases c:q=d
     · rw [if_pos c,c]
     · rw [if_neg c]⟩
 obtain ⟨k,v⟩:=v
 dsimp only at hv hn ⊢
 obtain ⟨hk,hm,hg⟩:=hv
 have hl:=hm.len
 by_cases c:j<k
 ·rw [decide_eq_true c]
  simp only [cond_true]
  have e1:gi v k=gi l d:=by rw [hg k om,if_neg om,if_pos rfl]
  have e2:gi v (k - 1)=gi l (k - 1):=by rw [hg (k - 1) om,if_neg om,if_neg om]
  refine hn _ ⟨by dsimp only;omega,hm.trans (zut hR (k:=k - 1) om (by rw [show k - 1+1=k by omega,e1,e2];exact h2 _ om om) (.inr ⟨om,rfl⟩)),fun q hq=>?_⟩ zaq
  dsimp only
  rw [ztr v k (k - 1) q om om hq]
  by_cases c1:q=k - 1
  ·rw [if_pos c1,e1,if_neg om,if_pos c1]
  ·rw [if_neg c1]
   by_cases c2:q=k
   ·rw [if_pos c2,e2,if_pos om,c2]
   ·rw [if_neg c2,hg q hq]
    by_cases c3:k<q∧q≤d
    ·rw [if_pos c3,if_pos om]
    ·rw [if_neg c3,if_neg c2,if_neg om,if_neg c1]
 ·rw [decide_eq_false c]
  simp only [cond_false]
  refine ⟨hm,fun p q g1 g2 g3=>?_⟩
  have hkj:k=j:=by omega
  rw [hg p om,hg q om]
  by_cases c1:q<k
  ·rw [if_neg (show ¬ (k<p∧p≤d) by omega),if_neg (show ¬ p=k by omega),if_neg (show ¬ (k<q∧q≤d) by omega),if_neg (show ¬ q=k by omega)]
   exact hs _ _ g1 g2 om
  ·by_cases c2:q=k
   ·rw [if_neg (show ¬ (k<p∧p≤d) by omega),if_neg (show ¬ p=k by omega),if_neg (show ¬ (k<q∧q≤d) by omega),if_pos c2]
    exact h1 _ g1 om
   ·rw [if_pos (show k<q∧q≤d by omega)]
    by_cases c3:p<k
    ·rw [if_neg (show ¬ (k<p∧p≤d) by omega),if_neg (show ¬ p=k by omega)]
     exact hs _ _ g1 om om
    ·by_cases c4:p=k
     ·rw [if_neg (show ¬ (k<p∧p≤d) by omega),if_pos c4]
      exact hR.asym _ _ (h2 _ om om)
     ·rw [if_pos (show k<p∧p≤d by omega)]
      exact hs _ _ om om om
theorem zr2 {α : Type} [Inhabited α] {R : α → α → Bool} (hR : SWO R) : ∀ (m : Nat) {l : List α} {a d b : Int}, (b - a).toNat < m → 0 ≤ a ∧ a < d ∧ d < b ∧ b ≤ l.length → Srt R a d l → Srt R d b l → MrgOk R a b l (gSym R m l a d b) ∧ Srt R a b (gSym R m l a d b)
  | 0,l,a,d,b,hm,_,_,_=>absurd hm (Nat.not_lt_zero _)
  | m+1,l,a,d,b,hm,h,hs1,hs2=>by
    suffices key:(fun r:List α=>MrgOk R a b l r∧Srt R a b r) (gSym R (m+1) l a d b) from key
    rw [gSym]
    refine zbe (p:=fun r:List α=>MrgOk R a b l r∧Srt R a b r) (fun c1=>?_) (fun c1=>zbe (p:=fun r:List α=>MrgOk R a b l r∧Srt R a b r) (fun c2=>?_) (fun c2=>?_))
    · have c1:=of_decide_eq_true c1
      obtain rfl:d=a+1:=by omega
      refine jnQ (fun (j:Int)=>(a+1≤j∧j≤b)∧(∀ q,a+1≤q→q<j→R (gi l q) (gi l a)=true)∧∀ q,j≤q→q<b→R (gi l q) (gi l a)=false) (fun r:List α=>MrgOk R a b l r∧Srt R a b r) (fun K hK=>?_) (fun j hj=>z2i hR om hs2 hj.1 hj.2.1 hj.2.2)
      refine zcu (fun v=>(a+1≤v.1∧v.1≤v.2∧v.2≤b)∧(∀ q,a+1≤q→q<v.1→R (gi l q) (gi l a)=true)∧∀ q,v.2≤q→q<b→R (gi l q) (gi l a)=false) (fun v=>(v.2 - v.1).toNat) (fun r:List α=>MrgOk R a b l r∧Srt R a b r) (fun v next hv hn=>?_) _ _ zaq ⟨by dsimp only;omega,fun q g1 g2=>by dsimp only at g2;omega,fun q g1 g2=>by dsimp only at g1;omega⟩
      obtain ⟨hb,h1,h2⟩:=hv
      refine zbe (p:=fun r:List α=>MrgOk R a b l r∧Srt R a b r) (fun hc=>?_) (fun hc=>hK _ ⟨om,h1,fun q g1 g2=>h2 q zay g2⟩)
      have hc:=of_decide_eq_true hc
      refine zbe (p:=fun r:List α=>MrgOk R a b l r∧Srt R a b r) (fun hr=>hn _ ⟨by dsimp only;omega,fun q g1 g2=>?_,h2⟩ zaq) (fun hr=>hn _ ⟨by dsimp only;omega,h1,fun q g1 g2=>?_⟩ zaq)
      · dsimp only at g2
        by_cases e:q=(v.1+v.2) / 2 ^ 1
        · rw [e];exact hr
        · exact hR.le_lt (hs2 q _ g1 om om) hr
      · dsimp only at g1
        by_cases e:q=(v.1+v.2) / 2 ^ 1
        · rw [e];exact hr
        · exact hR.ntr _ _ _ (hs2 _ q om om g2) hr
    · have c2:=of_decide_eq_true c2
      obtain rfl:b=d+1:=by omega
      refine jnQ (fun (j:Int)=>(a≤j∧j≤d)∧(∀ q,a≤q→q<j→R (gi l d) (gi l q)=false)∧∀ q,j≤q→q<d→R (gi l d) (gi l q)=true) (fun r:List α=>MrgOk R a (d+1) l r∧Srt R a (d+1) r) (fun K hK=>?_) (fun j hj=>z0d hR om hs1 hj.1 hj.2.1 hj.2.2)
      refine zcu (fun v=>(a≤v.1∧v.1≤v.2∧v.2≤d)∧(∀ q,a≤q→q<v.1→R (gi l d) (gi l q)=false)∧∀ q,v.2≤q→q<d→R (gi l d) (gi l q)=true) (fun v=>(v.2 - v.1).toNat) (fun r:List α=>MrgOk R a (d+1) l r∧Srt R a (d+1) r) (fun v next hv hn=>?_) _ _ zaq ⟨by dsimp only;omega,fun q g1 g2=>by dsimp only at g2;omega,fun q g1 g2=>by dsimp only at g1;omega⟩
      obtain ⟨hb,h1,h2⟩:=hv
      refine zbe (p:=fun r:List α=>MrgOk R a (d+1) l r∧Srt R a (d+1) r) (fun hc=>?_) (fun hc=>hK _ ⟨om,h1,fun q g1 g2=>h2 q zay g2⟩)
      have hc:=of_decide_eq_true hc
      refine zbe (p:=fun r:List α=>MrgOk R a (d+1) l r∧Srt R a (d+1) r) (fun hr=>hn _ ⟨by dsimp only;omega,fun q g1 g2=>?_,h2⟩ zaq) (fun hr=>hn _ ⟨by dsimp only;omega,h1,fun q g1 g2=>?_⟩ zaq)
      · dsimp only at g2
        rw [Bool.not_eq_true'] at hr
        by_cases e:q=(v.1+v.2) / 2 ^ 1
        · rw [e];exact hr
        · exact hR.ntr _ _ _ hr (hs1 q _ g1 om om)
      · dsimp only at g1
        rw [Bool.not_eq_false'] at hr
        by_cases e:q=(v.1+v.2) / 2 ^ 1
        · rw [e];exact hr
        · exact hR.lt_le hr (hs1 _ q om om g2)
    · have c1:=of_decide_eq_false c1
      have c2:=of_decide_eq_false c2
      have hM:∃ M,(a+b) / 2 ^ 1=M∧a<M∧M<b∧(2 * M=a+b∨2 * M+1=a+b):=⟨_,rfl,om,om,om⟩
      obtain ⟨M,eM,m1,m2,m3⟩:=hM
      rw [eM]
      have hmono:∀ c c',a≤c→c≤c'→c'<d→d≤M+d - 1 - c'→M+d - 1 - c<b→R (gi l (M+d - 1 - c)) (gi l c)=true→R (gi l (M+d - 1 - c')) (gi l c')=true:=by
        intro c c' g1 g2 g3 g4 g5 hr
        by_cases e:c=c'
        · rw [← e];exact hr
        · exact hR.lt_le (hR.le_lt (hs2 (M+d - 1 - c') (M+d - 1 - c) g4 om g5) hr) (hs1 c c' g1 om g3)
      refine jnQ (fun (j:Int×Int)=>(a≤j.1∧j.1≤j.2∧j.2≤d)∧(j.2≤M∧M+d - j.1≤b)∧(j.1=a∨M+d - j.1=b)∧(j.2=d∨j.2=M)) (fun r:List α=>MrgOk R a b l r∧Srt R a b r) (fun K hK=>?_) (fun j hj=>?_)
      · refine zbe (p:=fun r:List α=>MrgOk R a b l r∧Srt R a b r) (fun hc=>hK _ ?_) (fun hc=>hK _ ?_)
        · have hc:=of_decide_eq_true hc;dsimp only;omega
        · have hc:=of_decide_eq_false hc;dsimp only;omega
      obtain ⟨s0,r0⟩:=j
      dsimp only at hj
      refine jnQ (fun (s:Int)=>(s0≤s∧s≤r0)∧(∀ c,s0≤c→c<s→R (gi l (M+d - 1 - c)) (gi l c)=false)∧∀ c,s≤c→c<r0→R (gi l (M+d - 1 - c)) (gi l c)=true) (fun r:List α=>MrgOk R a b l r∧Srt R a b r) (fun K hK=>?_) (fun s hs=>?_)
      · refine zcu (fun v=>(s0≤v.1∧v.1≤v.2∧v.2≤r0)∧(∀ c,s0≤c→c<v.1→R (gi l (M+d - 1 - c)) (gi l c)=false)∧∀ c,v.2≤c→c<r0→R (gi l (M+d - 1 - c)) (gi l c)=true) (fun v=>(v.2 - v.1).toNat) (fun r:List α=>MrgOk R a b l r∧Srt R a b r) (fun v next hv hn=>?_) _ _ zaq ⟨by dsimp only;omega,fun q g1 g2=>by dsimp only at g2;omega,fun q g1 g2=>by dsimp only at g1;omega⟩
        obtain ⟨hb,h1,h2⟩:=hv
        refine zbe (p:=fun r:List α=>MrgOk R a b l r∧Srt R a b r) (fun hc=>?_) (fun hc=>hK _ ⟨om,h1,fun q g1 g2=>h2 q zay g2⟩)
        have hc:=of_decide_eq_true hc
        refine zbe (p:=fun r:List α=>MrgOk R a b l r∧Srt R a b r) (fun hr=>hn _ ⟨by dsimp only;omega,fun q g1 g2=>?_,h2⟩ zaq) (fun hr=>hn _ ⟨by dsimp only;omega,h1,fun q g1 g2=>?_⟩ zaq)
        · dsimp only at g2
          rw [Bool.not_eq_true'] at hr
          cases e:R (gi l (M+d - 1 - q)) (gi l q)
          · rfl
          · rw [hmono q _ om om om om om e] at hr;cases hr
        · dsimp only at g1
          rw [Bool.not_eq_false'] at hr
          exact hmono _ q om g1 om om om hr
      obtain ⟨hsb,hlo,hhi⟩:=hs
      have hE:∃ E,M+d - s=E∧d≤E∧E≤b∧M≤E:=⟨_,rfl,om,om,om⟩
      obtain ⟨E,eE,e1,e2,e3⟩:=hE
      rw [eE]
      have hst:∀ i j,s≤i→i<d→d≤j→j<E→R (gi l j) (gi l i)=true:=by
        intro i j g1 g2 g3 g4
        have hr:=hhi s om om
        rw [show M+d - 1 - s=E - 1 by omega] at hr
        have h1:R (gi l j) (gi l s)=true:=by
          by_cases e:j=E - 1
          · rw [e];exact hr
          · exact hR.le_lt (hs2 j (E - 1) g3 om om) hr
        by_cases e:i=s
        · rw [e];exact h1
        · exact hR.lt_le h1 (hs1 s i om om g2)
      refine jnQ (fun (x:List α)=>MrgOk R s E l x∧∀ q,0≤q→gi x q=rotAt l s d E q) (fun r:List α=>MrgOk R a b l r∧Srt R a b r) (fun K hK=>?_) (fun x hx=>?_)
      · refine zbe (p:=fun r:List α=>MrgOk R a b l r∧Srt R a b r) (fun hc=>hK _ ?_) (fun hc=>hK _ ⟨.refl R s E l,fun q hq=>?_⟩)
        · simp only [Bool.and_eq_true,decide_eq_true_eq] at hc
          exact ⟨z48 hR om hst,(z0e om).2⟩
        · simp only [Bool.and_eq_false_iff,decide_eq_false_iff_not] at hc
          unfold rotAt
          by_cases q1:s≤q∧q<s+(E - d)
          · rw [if_pos q1,show q+(d - s)=q by omega]
          · rw [if_neg q1]
            by_cases q2:s+(E - d)≤q∧q<E
            · rw [if_pos q2,show q - (E - d)=q by omega]
            · rw [if_neg q2]
      obtain ⟨hxm,hxg⟩:=hx
      have hxl:=hxm.len
      have x1:∀ q,a≤q→q<s→gi x q=gi l q:=fun q g1 g2=>by rw [hxg q om];unfold rotAt;rw [if_neg om,if_neg om]
      have x2:∀ q,s≤q→q<M→gi x q=gi l (q+(d - s)):=fun q g1 g2=>by rw [hxg q om];unfold rotAt;rw [if_pos om]
      have x3:∀ q,M≤q→q<E→gi x q=gi l (q - (E - d)):=fun q g1 g2=>by rw [hxg q om];unfold rotAt;rw [if_neg om,if_pos om]
      have x4:∀ q,E≤q→q<b→gi x q=gi l q:=fun q g1 g2=>by rw [hxg q om];unfold rotAt;rw [if_neg om,if_neg om]
      have y1:Srt R a s x:=fun i j g1 g2 g3=>by rw [x1 i g1 om,x1 j om g3];exact hs1 i j g1 g2 om
      have y2:Srt R s M x:=fun i j g1 g2 g3=>by rw [x2 i g1 om,x2 j om g3];exact hs2 _ _ om om om
      have y3:Srt R M E x:=fun i j g1 g2 g3=>by rw [x3 i g1 om,x3 j om g3];exact hs1 _ _ om om om
      have y4:Srt R E b x:=fun i j g1 g2 g3=>by rw [x4 i g1 om,x4 j om g3];exact hs2 i j om g2 g3
      have hcross:∀ i j,a≤i→i<M→M≤j→j<b→R (gi x j) (gi x i)=false:=by
        intro i j g1 g2 g3 g4
        by_cases p1:i<s
        · rw [x1 i g1 p1]
          by_cases p2:j<E
          · rw [x3 j g3 p2];exact hs1 i _ g1 om om
          · rw [x4 j om g4]
            have hr:=hlo (s - 1) om om
            rw [show M+d - 1 - (s - 1)=E by omega] at hr
            have h1:R (gi l j) (gi l (s - 1))=false:=by
              by_cases e:j=E
              · rw [e];exact hr
              · exact hR.ntr _ _ _ (hs2 E j om om g4) hr
            by_cases e:i=s - 1
            · rw [e];exact h1
            · exact hR.ntr _ _ _ h1 (hs1 i (s - 1) g1 om om)
        · rw [x2 i om g2]
          by_cases p2:j<E
          · rw [x3 j g3 p2];exact hR.asym _ _ (hst _ _ om om om om)
          · rw [x4 j om g4];exact hs2 _ _ om om g4
      refine jnQ (fun (z:List α)=>MrgOk R a M x z∧Srt R a M z) (fun r:List α=>MrgOk R a b l r∧Srt R a b r) (fun K hK=>?_) (fun z hz=>?_)
      · refine zbe (p:=fun r:List α=>MrgOk R a b l r∧Srt R a b r) (fun hc=>hK _ ?_) (fun hc=>hK _ ⟨.refl R a M x,?_⟩)
        · simp only [Bool.and_eq_true,decide_eq_true_eq] at hc
          exact zr2 hR m om om y1 y2
        · simp only [Bool.and_eq_false_iff,decide_eq_false_iff_not] at hc
          by_cases q:a<s
          · exact y1.sub (Int.le_refl _) om
          · exact y2.sub om (Int.le_refl _)
      obtain ⟨hzm,hzs⟩:=hz
      have hzl:=hzm.len
      have hz3:Srt R M E z:=y3.same fun k g1 g2=>hzm.out k om om
      have hz4:Srt R E b z:=y4.same fun k g1 g2=>hzm.out k om om
      have hfin:∀ w,MrgOk R M b z w→Srt R M b w→MrgOk R a b l w∧Srt R a b w:=by
        intro w hw hws
        refine ⟨((hxm.mono om om e2).trans (hzm.mono om (Int.le_refl _) om)).trans (hw.mono om om (Int.le_refl _)),fun i j g1 g2 g3=>?_⟩
        by_cases p1:M≤i
        · exact hws i j p1 g2 g3
        · rw [hw.out i om om]
          by_cases p2:j<M
          · rw [hw.out j om om];exact hzs i j g1 g2 p2
          · obtain ⟨j',j1,j2,ej⟩:=hw.inn j om g3
            obtain ⟨i',i1,i2,ei⟩:=hzm.inn i g1 om
            rw [ej,ei,hzm.out j' om om]
            exact hcross i' j' i1 i2 j1 j2
      refine zbe (p:=fun r:List α=>MrgOk R a b l r∧Srt R a b r) (fun hc=>?_) (fun hc=>hfin z (.refl R M b z) ?_)
      · simp only [Bool.and_eq_true,decide_eq_true_eq] at hc
        have h9:=zr2 hR m (l:=z) (a:=M) (d:=E) (b:=b) om om hz3 hz4
        exact hfin _ h9.1 h9.2
      · simp only [Bool.and_eq_false_iff,decide_eq_false_iff_not] at hc
        by_cases q:M<E
        · exact hz3.sub (Int.le_refl _) om
        · exact hz4.sub om (Int.le_refl _)
inductive Runs {α : Type} [Inhabited α] (R : α → α → Bool) (B n : Int) (l : List α) : Int → Prop
  | nil {a:Int} (h:n≤a):Runs R B n l a
  | cons {a:Int} (h:a<n) (s:Srt R a (min (a+B) n) l) (r:Runs R B n l (a+B)):Runs R B n l a
inductive LRuns {α : Type} [Inhabited α] (R : α → α → Bool) (B : Int) (l : List α) : Int → Prop
  | nil:LRuns R B l 0
  | snoc {a:Int} (h:LRuns R B l a) (s:Srt R a (a+B) l):LRuns R B l (a+B)
theorem LRuns.nonneg {α:Type} [Inhabited α] {R:α→α→Bool} {B a:Int} {l:List α} (h:LRuns R B l a) (hB:0<B):0≤a:=by
 induction h with
 | nil=>exact Int.le_refl _
 | snoc _ _ ih=>omega
theorem LRuns.run {α:Type} [Inhabited α] {R:α→α→Bool} {B a n:Int} {l:List α} (h:LRuns R B l a) (hB:0<B):a≤n→Runs R B n l a→Runs R B n l 0:=by
 induction h with
 | nil=>exact fun _ hr=>hr
 | @snoc a h s ih =>
  intro ha hr
  exact ih om (.cons om (by rw [Int.min_eq_left ha];exact s) hr)
theorem LRuns.keep {α:Type} [Inhabited α] {R:α→α→Bool} {B a:Int} {l l':List α} (h:LRuns R B l a) (hB:0<B):(∀ k,0≤k→k<a→gi l' k=gi l k)→LRuns R B l' a:=by
 induction h with
 | nil=>exact fun _=>.nil
 | @snoc a h s ih =>
  intro hk
  have:=h.nonneg hB
  exact .snoc (ih fun k h0 h1=>hk k h0 om) (s.same fun k h0 h1=>hk k om h1)
theorem Runs.keep {α:Type} [Inhabited α] {R:α→α→Bool} {B n a:Int} {l l':List α} (h:Runs R B n l a) (hB:0<B):(∀ k,a≤k→k<n→gi l' k=gi l k)→Runs R B n l' a:=by
 induction h with
 | nil h=>exact fun _=>.nil h
 | @cons a h s r ih =>
  intro hk
  exact .cons h (s.same fun k h0 h1=>hk k h0 om) (ih fun k h0 h1=>hk k om h1)
theorem Runs.last {α:Type} [Inhabited α] {R:α→α→Bool} {B n a:Int} {l:List α} (h:Runs R B n l a) (hn:n≤a+B):Srt R a n l:=by
 cases h with
 | nil h=>exact fun i j g1 g2 g3=>by omega
 | cons h s r=>rw [Int.min_eq_right hn] at s;exact s
theorem Runs.of_last {α:Type} [Inhabited α] {R:α→α→Bool} {B n a:Int} {l:List α} (h:Srt R a n l) (hn:n≤a+B):Runs R B n l a:=by
 by_cases c:a<n
 ·exact .cons c (by rw [Int.min_eq_right hn];exact h) (.nil hn)
 ·exact .nil om
theorem z47 {α:Type} [Inhabited α] {R:α→α→Bool} (hR:SWO R) {l:List α} {n:Int} (hn:n=l.length) (h255:n≤255):MrgOk R 0 n l (gStb R l n)∧Srt R 0 n (gStb R l n):=by
 suffices key:(fun r:List α=>MrgOk R 0 n l r∧Srt R 0 n r) (gStb R l n) from key
 unfold gStb
 refine zcu (fun v=>(0≤v.1∧v.1≤n∧v.2.1=v.1+20)∧MrgOk R 0 n l v.2.2∧LRuns R 20 v.2.2 v.1) (fun v=>(n+20 - v.2.1).toNat) (fun r:List α=>MrgOk R 0 n l r∧Srt R 0 n r) (fun v next hv hn1=>?_) _ _ zaq ⟨by dsimp only;omega,.refl R 0 n l,.nil⟩
 obtain ⟨a,b,v⟩:=v
 dsimp only at hv hn1 ⊢
 obtain ⟨⟨ha0,ha1,rfl⟩,hm,hl⟩:=hv
 have hvl:=hm.len
 by_cases c:a+20≤n
 ·rw [decide_eq_true c]
  simp only [cond_true,jn]
  have h9:=z0g hR (l:=v) (a:=a) (b:=a+20) om
  exact hn1 _ ⟨by dsimp only;omega,hm.trans (h9.1.mono (Int.le_refl _) ha0 c),.snoc (hl.keep om fun k g0 g1=>h9.1.out k g0 (.inl g1)) h9.2⟩ zaq
 ·rw [decide_eq_false c]
  simp only [cond_false,jn]
  have h9:=z0g hR (l:=v) (a:=a) (b:=n) om
  have hl9:=hl.keep om (l':=gIns R v a n) fun k g0 g1=>h9.1.out k g0 (.inl g1)
  have hr9:=hl9.run om ha1 (Runs.of_last h9.2 om)
  refine zcu (fun w=>20≤w.1∧MrgOk R 0 n l w.2∧Runs R w.1 n w.2 0) (fun w=>(n+20 - w.1).toNat) (fun r:List α=>MrgOk R 0 n l r∧Srt R 0 n r) (fun w nx2 hw hn2=>?_) _ _ zaq ⟨Int.le_refl _,hm.trans (h9.1.mono (Int.le_refl _) ha0 (Int.le_refl _)),hr9⟩
  obtain ⟨B,w⟩:=w
  dsimp only at hw hn2 ⊢
  obtain ⟨hB,hwm,hwr⟩:=hw
  by_cases c2:B<n
  ·rw [decide_eq_true c2]
   simp only [cond_true]
   refine zcu (fun u=>(0≤u.1∧u.1≤n∧u.2.1=u.1+2 * B)∧MrgOk R 0 n l u.2.2∧LRuns R (2 * B) u.2.2 u.1∧Runs R B n u.2.2 u.1) (fun u=>(n+1000 - u.2.1).toNat) (fun r:List α=>MrgOk R 0 n l r∧Srt R 0 n r) (fun u next hu hn3=>?_) _ _ zaq ⟨by dsimp only;omega,hwm,.nil,hwr⟩
   obtain ⟨p,q,u⟩:=u
   dsimp only at hu hn3 ⊢
   obtain ⟨⟨hp0,hp1,rfl⟩,hum,hul,hur⟩:=hu
   have hulen:=hum.len
   by_cases c3:p+2 * B≤n
   ·rw [decide_eq_true c3]
    simp only [cond_true,jn]
    cases hur with
    | nil h=>omega
    | cons h s r =>
     rw [Int.min_eq_left om] at s
     cases r with
     | nil h=>omega
     | cons h2 s2 r2 =>
      rw [Int.min_eq_left om] at s2
      have e:p+B+B=p+2 * B:=by omega
      rw [e] at s2 r2
      have h8:=zr2 hR 256 (l:=u) (a:=p) (d:=p+B) (b:=p+2 * B) om om s s2
      exact hn3 _ ⟨by dsimp only;omega,hum.trans (h8.1.mono (Int.le_refl _) hp0 c3),.snoc (hul.keep om fun k g0 g1=>h8.1.out k g0 (.inl g1)) h8.2,r2.keep om fun k g0 g1=>h8.1.out k om (.inr g0)⟩ zaq
   ·rw [decide_eq_false c3]
    simp only [cond_false]
    by_cases c4:p+B<n
    ·rw [decide_eq_true c4]
     simp only [cond_true]
     cases hur with
     | nil h=>omega
     | cons h s r =>
      rw [Int.min_eq_left om] at s
      have s2:=r.last om
      have h8:=zr2 hR 256 (l:=u) (a:=p) (d:=p+B) (b:=n) om om s s2
      refine hn2 _ ⟨by dsimp only;omega,hum.trans (h8.1.mono (Int.le_refl _) hp0 (Int.le_refl _)),?_⟩ zaq
      dsimp only
      rw [Int.mul_comm B 2]
      exact (hul.keep om fun k g0 g1=>h8.1.out k g0 (.inl g1)).run om hp1 (Runs.of_last h8.2 om)
    ·rw [decide_eq_false c4]
     simp only [cond_false]
     refine hn2 _ ⟨by dsimp only;omega,hum,?_⟩ zaq
     dsimp only
     rw [Int.mul_comm B 2]
     exact hul.run om hp1 (Runs.of_last (hur.last om) om)
  ·rw [decide_eq_false c2]
   simp only [cond_false]
   exact ⟨hwm,hwr.last om⟩
def SrtL {α:Type} (R:α→α→Bool) (l:List α):Prop:=l.Pairwise fun x y=>R y x=false
theorem zwj {α:Type} [Inhabited α] {R:α→α→Bool} (hR:SWO R) {l:List α} (h:l.length≤255):SrtL R (gStb R l l.length)∧StEq R l (gStb R l l.length):=by
 have h9:=z47 hR (l:=l) (n:=l.length) rfl om
 refine ⟨Srt.pairwise ?_,h9.1.st⟩
 rw [h9.1.len];exact h9.2
theorem zjh {α:Type} {R:α→α→Bool} (hR:SWO R) (x:α):eqc R x x=true:=by unfold eqc;rw [hR.irr];rfl
theorem zst {α : Type} {R : α → α → Bool} (hR : SWO R) : ∀ {l m : List α}, SrtL R l → SrtL R m → StEq R l m → l = m
  | [],[],_,_,_=>rfl
  | [],b :: m,_,_,h=>by
    have:=h b
    rw [List.filter_cons,zjh hR] at this
    simp at this
  | a :: l,[],_,_,h=>by
    have:=h a
    rw [List.filter_cons,zjh hR] at this
    simp at this
  | a :: l,b :: m,hl,hm,h=>by
    obtain ⟨hl1,hl2⟩:=List.pairwise_cons.1 hl
    obtain ⟨hm1,hm2⟩:=List.pairwise_cons.1 hm
    have hla:∀ y∈a :: l,R y a=false:=fun y hy=>by
      rcases List.mem_cons.1 hy with e | e
      · rw [e];exact hR.irr a
      · exact hl1 y e
    have hmb:∀ y∈b :: m,R y b=false:=fun y hy=>by
      rcases List.mem_cons.1 hy with e | e
      · rw [e];exact hR.irr b
      · exact hm1 y e
    have h1:R b a=false:=by
      have hb:b∈(a :: l).filter (eqc R b)→R b a=false:=fun hm9=>hla b (List.mem_filter.1 hm9).1
      have hmem:b∈(b :: m).filter (eqc R b):=List.mem_filter.2 ⟨List.mem_cons_self,zjh hR b⟩
      rw [h b] at hmem
      exact hb hmem
    have h2:R a b=false:=by
      have hmem:a∈(a :: l).filter (eqc R a):=List.mem_filter.2 ⟨List.mem_cons_self,zjh hR a⟩
      rw [← h a] at hmem
      exact hmb a (List.mem_filter.1 hmem).1
    have hab:a=b:=by
      have h3:=h a
      have e1:eqc R a b=true:=by unfold eqc;rw [h1,h2];rfl
      rw [List.filter_cons,List.filter_cons,zjh hR,e1] at h3
      simp only [if_true] at h3
      exact (List.cons.inj h3).1.symm
    subst hab
    rw [zst hR hl2 hm2 fun x=>by
      have h3:=h x
      rw [List.filter_cons,List.filter_cons] at h3
      split at h3
      · exact (List.cons.inj h3).2
      · exact h3]
noncomputable def kvoP (d:Nat) (ids:List Nat) (l:List Int):Cl:=(.resM d ids [(900000,.arr 1 l.length (rowOf (cInt .i64) l)),(0,.var [.own 900000])] (.agg [.k Tryz.prog.globals.size 70,.vp 0 0,.int .u64 151]),k0 (P:=FnX Tryz.prog 68 [.ifc 70 (.own 900000)] [.arr 1 l.length (rowOf (cInt .i64) l)] (.agg [.k Tryz.prog.globals.size 70,.vp 0 0,.int .u64 151]) [(900000,.arr 1 l.length (rowOf (cInt .i64) l)),(0,.var [.own 900000])]) (FnX.valueOf (t:=70) (e:=3) (ti:=Tryz.t70) Tryz.func68 (by kernel_rfl) (by kernel_rfl) (by kernel_rfl) za8 (by kernel_rfl) (by kernel_rfl)))
noncomputable def klnP (d:Nat) (ids:List Nat) (l:List Int):Cl:=(.resM d ids (enumB [.arr 1 l.length (rowOf (cInt .i64) l),.var [.own 900000]] 900000) (.int .i64 l.length),k0 (P:=FnX Tryz.prog 71 [.agg [.k Tryz.prog.globals.size 70,.vp 900001 0,.int .u64 151]] [.arr 1 l.length (rowOf (cInt .i64) l),.var [.own 900000]] (.int .i64 l.length) (enumB [.arr 1 l.length (rowOf (cInt .i64) l),.var [.own 900000]] 900000)) (FnX.valLen (t:=70) (e:=3) (ti:=Tryz.t70) Tryz.func71 (by kernel_rfl) (by kernel_rfl) (by kernel_rfl) za8 (by kernel_rfl) (by kernel_rfl) (by kernel_rfl) (by kernel_rfl)))
noncomputable def kspP (d:Nat) (ids:List Nat) (l:List Int):Cl:=(.resM d ids (enumB [.arr 1 l.length (rowOf (cInt .i64) l)] 900000) (.clo 86 [.own 900000,.k Tryz.prog.globals.size 3]),k1 (P:=FnX Tryz.prog 69 [.ifc 70 (.own 900000)] [.arr 1 l.length (rowOf (cInt .i64) l)] (.clo 86 [.own 900000,.k Tryz.prog.globals.size 3]) (enumB [.arr 1 l.length (rowOf (cInt .i64) l)] 900000)) fun hn=>FnX.swapper (t:=70) (e:=3) (ti:=Tryz.t70) (ie:=Tryz.t3) (ke:=2) hn Tryz.func69 (by kernel_rfl) (by kernel_rfl) (by kernel_rfl) za8 (by kernel_rfl) (by kernel_rfl) (by kernel_rfl) (fun w=>by kernel_rfl) (fun m=>⟨rfl,by decide⟩) (by kernel_rfl))

def C51P (x0:yf) (x1:Unit) (R:(List Int)):LV×List (Nat×BC):=(.tup [],[(900000,.arr 1 R.length (rowOf (cInt .i64) R)),(900001,.var [.ro false 6 x0.c0.people.length (rowOf (zbg false) x0.c0.people),.ro false 4 x0.c0.unions.length (rowOf (zbi false) x0.c0.unions)]),(900002,.var [.own 900000])])
def zf9 (x0:yf) (x1:Unit):(List Int):=zjz x0 (x0.l.length:Int)
noncomputable def A51P (x0:yf) (x1:Unit):Ann:=.reg 2 [] [(1,kvoP 7 [900000] x0.l),(1001,kspP 9 [900000] x0.l)] [1,4,5] [4,1007,900000,900001,900002] [] [] [] [0,4] (.reg 1 [] [(4,klnP 14 [900000,1007] x0.l),(5,k70P 15 [900000,900001,900002] x0 (x0.l.length:Int))] [] [900000,900001,900002] [] [] [] [0,4] (rt [(900000,some 900000),(900001,some 900001),(900002,some 900002)] (C51P x0 x1 (zjz x0 (x0.l.length:Int)))))
theorem zy2 (x:yf):zf9 x ()=gStb (RP x) x.l x.l.length:=zxh x _

theorem zin (x0:yf) (x1:Unit) (hx:x0.l.length≤255) (hk:LkP x0 x0.l) (h2:2≤x0.l.length):FnMT Tryz.prog 51 [.ifc 70 (.own 900000),.clo 56 [.vp 900001 0,.vp 900002 0]] [.arr 1 x0.l.length (rowOf (cInt .i64) x0.l),.var [.ro false 6 x0.c0.people.length (rowOf (zbg false) x0.c0.people),.ro false 4 x0.c0.unions.length (rowOf (zbi false) x0.c0.unions)],.var [.own 900000]] (C51P x0 x1 (zf9 x0 x1)):=by
 have aux:∀ R,zf9 x0 x1=R→slim (C51P x0 x1 R) (A51P x0 x1) []:=by
  intro R hR
  refine rg ⟨trivial,by with_reducible assumption,trivial⟩ ?_
  refine rg ⟨trivial,⟨by with_reducible assumption,by with_reducible assumption,by (intros;omega)⟩,trivial⟩ ?_
  exact congrArg (C51P x0 x1) hR
 exact FnM.go 16 Tryz.func51 (by kernel_rfl) (by kernel_rfl) (A51P x0 x1) (by kernel_rfl) (aux _ rfl)
def k51P (d:Nat) (ids:List Nat) (x0:yf) (x1:Unit):Cl:=(hresM d ids (C51P x0 x1 (zf9 x0 x1)),k3 (zin x0 x1))
structure yg where
 c0:yc
 l:List Int
 deriving Inhabited

def C91Q (x0:yg) (x1:Int) (x2:Int) (R:(List Int)):LV×List (Nat×BC):=(.tup [],[(900000,.arr 1 R.length (rowOf (cInt .i64) R)),(900001,.var [.ro false 6 x0.c0.people.length (rowOf (zbg false) x0.c0.people),.ro false 4 x0.c0.unions.length (rowOf (zbi false) x0.c0.unions)]),(900002,.var [.own 900000])])
def zlb (x0:yg) (x1:Int) (x2:Int):(List Int):=loopW (fun (v1:Int) next=>x0.l) (0+1) (x1+1)
def z35 (v1:Int):Dl:=⟨[(6,.int .i64 v1)],[]⟩
def A91Qb1 (x0:yg) (x1:Int) (x2:Int) (v1:Int):Ann:=r0 1 [1,2,3,6,12] [3,900000,900001,900002] (cn (decide (v1<x2)) (.next 99 [] ⟨[],[]⟩) (rt [(900000,some 900000),(900001,some 900001),(900002,some 900002)] (C91Q x0 x1 x2 x0.l)))
def A91Q (x0:yg) (x1:Int) (x2:Int):Ann:=r1 2 [1,2,3,6] [3,900000,900001,900002] [pf (inR .i64 (x1+1))] [0] (.loop Int (z35) [] [] [] (z35 (x1+1)) (A91Qb1 x0 x1 x2))
theorem zfz (x0:yg) (x1:Int) (x2:Int) (hx:x0.l.length≤1) (hab:x1=0∧x2=x0.l.length):FnMT Tryz.prog 91 [.agg [.clo 56 [.vp 900001 0,.vp 900002 0],.fv],.int .i64 x1,.int .i64 x2] [.arr 1 x0.l.length (rowOf (cInt .i64) x0.l),.var [.ro false 6 x0.c0.people.length (rowOf (zbg false) x0.c0.people),.ro false 4 x0.c0.unions.length (rowOf (zbi false) x0.c0.unions)],.var [.own 900000]] (C91Q x0 x1 x2 (zlb x0 x1 x2)):=by
 have aux:∀ R,zlb x0 x1 x2=R→slim (C91Q x0 x1 x2 R) (A91Q x0 x1 x2) []:=by
  intro R hR
  refine rg ⟨by (simp only [decide_eq_true_eq,decide_eq_false_iff_not,inR] at *;omega),trivial⟩ ?_
  revert hR;refine lW (fun v=>x1+1≤v) (fun v=>0) zar (Nat.lt_succ_self _) rfl fun m1 v1 F1 hI1 hM1 hR hK1=>?_
  refine rg trivial ?_
  refine ⟨fun hq=>absurd hq zao,fun hc1=>?_⟩
  exact congrArg (C91Q x0 x1 x2) hR
 exact FnM.go 35 Tryz.func91 (by kernel_rfl) (by kernel_rfl) (A91Q x0 x1 x2) (by kernel_rfl) (aux _ rfl)
def k91Q (d:Nat) (ids:List Nat) (x0:yg) (x1:Int) (x2:Int):Cl:=(hresM d ids (C91Q x0 x1 x2 (zlb x0 x1 x2)),k2 (zfz x0 x1 x2))
def C70Q (x0:yg) (x1:Int) (R:(List Int)):LV×List (Nat×BC):=(.tup [],[(900000,.arr 1 R.length (rowOf (cInt .i64) R)),(900001,.var [.ro false 6 x0.c0.people.length (rowOf (zbg false) x0.c0.people),.ro false 4 x0.c0.unions.length (rowOf (zbi false) x0.c0.unions)]),(900002,.var [.own 900000])])
def znz (x0:yg) (x1:Int):(List Int):=loopW (fun (v1:Int×Int) next=>loopW (fun (v2:Int) next=>zlb x0 v1.1 x1) (0+1) 20) (0+1) (0,20)
def z4i (v1:Int×Int):Dl:=⟨[(5,.int .i64 v1.1),(6,.int .i64 v1.2)],[]⟩
def z4h (v2:Int):Dl:=⟨[(4,.int .i64 v2)],[]⟩
def A70Qb2 (x0:yg) (x1:Int) (v1:Int×Int) (v2:Int):Ann:=r0 1 [1,2,4,26] [2,900000,900001,900002] (cn (decide (v2<x1)) (.next 99 [] ⟨[],[]⟩) (rt [(900000,some 900000),(900001,some 900001),(900002,some 900002)] (C70Q x0 x1 (zlb x0 v1.1 x1))))
def A70Qb1 (x0:yg) (x1:Int) (v1:Int×Int):Ann:=r0 1 [1,2,4,5,6,11] [2,900000,900001,900002] (cn (decide (v1.2≤x1)) (.next 99 [] ⟨[],[]⟩) (.reg 1 [] [(3,k91Q 23 [900000,900001,900002] x0 v1.1 x1)] [1,2,4] [2,900000,900001,900002] [] [] [] [0] (.loop Int (z4h) [] [] [] (z4h 20) (A70Qb2 x0 x1 v1))))
def A70Q (x0:yg) (x1:Int):Ann:=r0 3 [1,2,4,5,6] [2,900000,900001,900002] (.loop (Int×Int) (z4i) [] [] [] (z4i (0,20)) (A70Qb1 x0 x1))
theorem zid (x0:yg) (x1:Int) (hx:x0.l.length≤1) (hn:x1=x0.l.length):FnMT Tryz.prog 70 [.agg [.clo 56 [.vp 900001 0,.vp 900002 0],.fv],.int .i64 x1] [.arr 1 x0.l.length (rowOf (cInt .i64) x0.l),.var [.ro false 6 x0.c0.people.length (rowOf (zbg false) x0.c0.people),.ro false 4 x0.c0.unions.length (rowOf (zbi false) x0.c0.unions)],.var [.own 900000]] (C70Q x0 x1 (znz x0 x1)):=by
 have aux:∀ R,znz x0 x1=R→slim (C70Q x0 x1 R) (A70Q x0 x1) []:=by
  intro R hR
  refine rg trivial ?_
  revert hR;refine lW (fun v=>v.1=0∧v.2=20) (fun v=>0) zar (Nat.lt_succ_self _) rfl fun m1 v1 F1 hI1 hM1 hR hK1=>?_
  refine rg trivial ?_
  refine ⟨fun hq=>absurd hq zao,fun hc1=>?_⟩
  refine rg ⟨⟨by with_reducible assumption,by (intros;omega)⟩,trivial⟩ ?_
  revert hR;refine lW (fun v=>v=20) (fun v=>0) zar (Nat.lt_succ_self _) rfl fun m2 v2 F2 hI2 hM2 hR hK2=>?_
  refine rg trivial ?_
  refine ⟨fun hq=>absurd hq zao,fun hc2=>?_⟩
  exact congrArg (C70Q x0 x1) hR
 exact FnM.go 57 Tryz.func70 (by kernel_rfl) (by kernel_rfl) (A70Q x0 x1) (by kernel_rfl) (aux _ rfl)
def k70Q (d:Nat) (ids:List Nat) (x0:yg) (x1:Int):Cl:=(hresM d ids (C70Q x0 x1 (znz x0 x1)),k2 (zid x0 x1))
noncomputable def kvoQ (d:Nat) (ids:List Nat) (l:List Int):Cl:=(.resM d ids [(900000,.arr 1 l.length (rowOf (cInt .i64) l)),(0,.var [.own 900000])] (.agg [.k Tryz.prog.globals.size 70,.vp 0 0,.int .u64 151]),k0 (P:=FnX Tryz.prog 68 [.ifc 70 (.own 900000)] [.arr 1 l.length (rowOf (cInt .i64) l)] (.agg [.k Tryz.prog.globals.size 70,.vp 0 0,.int .u64 151]) [(900000,.arr 1 l.length (rowOf (cInt .i64) l)),(0,.var [.own 900000])]) (FnX.valueOf (t:=70) (e:=3) (ti:=Tryz.t70) Tryz.func68 (by kernel_rfl) (by kernel_rfl) (by kernel_rfl) za8 (by kernel_rfl) (by kernel_rfl)))
noncomputable def klnQ (d:Nat) (ids:List Nat) (l:List Int):Cl:=(.resM d ids (enumB [.arr 1 l.length (rowOf (cInt .i64) l),.var [.own 900000]] 900000) (.int .i64 l.length),k0 (P:=FnX Tryz.prog 71 [.agg [.k Tryz.prog.globals.size 70,.vp 900001 0,.int .u64 151]] [.arr 1 l.length (rowOf (cInt .i64) l),.var [.own 900000]] (.int .i64 l.length) (enumB [.arr 1 l.length (rowOf (cInt .i64) l),.var [.own 900000]] 900000)) (FnX.valLen (t:=70) (e:=3) (ti:=Tryz.t70) Tryz.func71 (by kernel_rfl) (by kernel_rfl) (by kernel_rfl) za8 (by kernel_rfl) (by kernel_rfl) (by kernel_rfl) (by kernel_rfl)))
noncomputable def kspQ (d:Nat) (ids:List Nat) (l:List Int):Cl:=(.resM d ids (enumB [.arr 1 l.length (rowOf (cInt .i64) l)] 900000) .fv,k1 (P:=FnX Tryz.prog 69 [.ifc 70 (.own 900000)] [.arr 1 l.length (rowOf (cInt .i64) l)] .fv (enumB [.arr 1 l.length (rowOf (cInt .i64) l)] 900000)) fun hn=>FnX.swapper0 (t:=70) (e:=3) (ti:=Tryz.t70) (ie:=Tryz.t3) (ke:=2) (g0:=82) (g1:=83) hn Tryz.func69 (by kernel_rfl) (by kernel_rfl) (by kernel_rfl) za8 (by kernel_rfl) (by kernel_rfl) (by kernel_rfl) (fun w=>by kernel_rfl) (by kernel_rfl) (by kernel_rfl))

def C51Q (x0:yg) (x1:Unit) (R:(List Int)):LV×List (Nat×BC):=(.tup [],[(900000,.arr 1 R.length (rowOf (cInt .i64) R)),(900001,.var [.ro false 6 x0.c0.people.length (rowOf (zbg false) x0.c0.people),.ro false 4 x0.c0.unions.length (rowOf (zbi false) x0.c0.unions)]),(900002,.var [.own 900000])])
def zf8 (x0:yg) (x1:Unit):(List Int):=znz x0 (x0.l.length:Int)
noncomputable def A51Q (x0:yg) (x1:Unit):Ann:=.reg 2 [] [(1,kvoQ 7 [900000] x0.l),(1001,kspQ 9 [900000] x0.l)] [1,4,5] [4,1007,900000,900001,900002] [] [] [] [0,4] (.reg 1 [] [(4,klnQ 14 [900000,1007] x0.l),(5,k70Q 15 [900000,900001,900002] x0 (x0.l.length:Int))] [] [900000,900001,900002] [] [] [] [0,4] (rt [(900000,some 900000),(900001,some 900001),(900002,some 900002)] (C51Q x0 x1 (znz x0 (x0.l.length:Int)))))
theorem zy1 (x:yg):zf8 x ()=x.l:=rfl

theorem zim (x0:yg) (x1:Unit) (hx:x0.l.length≤1):FnMT Tryz.prog 51 [.ifc 70 (.own 900000),.clo 56 [.vp 900001 0,.vp 900002 0]] [.arr 1 x0.l.length (rowOf (cInt .i64) x0.l),.var [.ro false 6 x0.c0.people.length (rowOf (zbg false) x0.c0.people),.ro false 4 x0.c0.unions.length (rowOf (zbi false) x0.c0.unions)],.var [.own 900000]] (C51Q x0 x1 (zf8 x0 x1)):=by
 have aux:∀ R,zf8 x0 x1=R→slim (C51Q x0 x1 R) (A51Q x0 x1) []:=by
  intro R hR
  refine rg ⟨trivial,by with_reducible assumption,trivial⟩ ?_
  refine rg ⟨trivial,⟨by with_reducible assumption,by (intros;omega)⟩,trivial⟩ ?_
  exact congrArg (C51Q x0 x1) hR
 exact FnM.go 16 Tryz.func51 (by kernel_rfl) (by kernel_rfl) (A51Q x0 x1) (by kernel_rfl) (aux _ rfl)
def k51Q (d:Nat) (ids:List Nat) (x0:yg) (x1:Unit):Cl:=(hresM d ids (C51Q x0 x1 (zf8 x0 x1)),k1 (zim x0 x1))
end Go.Proofs.YtlinnkjieghmhaaGreatDoor
