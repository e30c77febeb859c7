import Derived.Test.YtepefimocflfkaaM191
set_option maxHeartbeats 4000000
set_option linter.unusedSimpArgs false
set_option linter.unusedVariables false
namespace Go.Proofs.Ytepefimocflfkaa
open Go Go.Lite Go.Proofs
theorem Srt.sub {α:Type} [Inhabited α] {R:α→α→Bool} {a b c d:Int} {l:List α} (h:Srt R a b l) (h1:a≤c) (h2:d≤b):Srt R c d l:=fun i j g1 g2 g3=>h i j (by omega) g2 (by omega)
theorem Srt.same {α:Type} [Inhabited α] {R:α→α→Bool} {a b:Int} {l m:List α} (h:Srt R a b l) (he:∀ k,a≤k→k<b→gi m k=gi l k):Srt R a b m:=fun i j g1 g2 g3=>by rw [he i g1 (by omega),he j (by omega) g3];exact h i j g1 g2 g3
theorem gIns_ok {α:Type} [Inhabited α] {R:α→α→Bool} (hR:SWO R) {l:List α} {a b:Int} (h:0≤a∧a≤b∧b≤l.length):MrgOk R a b l (gIns R l a b)∧Srt R a b (gIns R l a b):=by
 suffices key:(fun r:List α=>MrgOk R a b l r∧Srt R a b r) (gIns R l a b) from key
 unfold gIns
 refine loopW_to (fun v=>a+1≤v.1∧MrgOk R a b l v.2∧Srt R a v.1 v.2) (fun v=>(b - v.1).toNat) (fun r=>MrgOk R a b l r∧Srt R a b r) (fun v next hv hn=>?_) _ _ (by dsimp only;omega) ⟨Int.le_refl _,.refl R a b l,fun i j g1 g2 g3=>by dsimp only at g3;omega⟩
 obtain ⟨h1,h2,h3⟩:=hv
 refine cond_both (p:=fun r=>MrgOk R a b l r∧Srt R a b r) (fun hc=>?_) (fun hc=>⟨h2,h3.sub (Int.le_refl _) (by have:=of_decide_eq_false hc;omega)⟩)
 have hc:=of_decide_eq_true hc
 refine loopW_to (fun w=>(a≤w.1∧w.1≤v.1)∧MrgOk R a b l w.2∧InsI R a v.1 w.1 w.2) (fun w=>w.1.toNat) (fun r=>MrgOk R a b l r∧Srt R a b r) (fun w next2 hw hn2=>?_) _ _ (by dsimp only;omega) ⟨by dsimp only;omega,h2,InsI.start (by omega) h3⟩
 obtain ⟨g1,g2,g3⟩:=hw
 have hl:=g2.len
 refine cond_both (p:=fun r=>MrgOk R a b l r∧Srt R a b r) (fun hd=>?_) (fun hd=>hn _ ⟨by dsimp only;omega,g2,InsI.done hR g3 fun hj=>?_⟩ (by dsimp only;omega))
 ·simp only [Bool.and_eq_true,decide_eq_true_eq] at hd
  refine hn2 _ ⟨by dsimp only;omega,g2.trans (mrg_adj hR (k:=w.1 - 1) (by omega) ?_ (.inr ⟨by omega,rfl⟩)),InsI.step hR g3 h.1 (by omega) hd.1 hd.2⟩ (by dsimp only;omega)
  rw [show w.1 - 1+1=w.1 by omega];exact hd.2
 ·rw [decide_eq_true hj,Bool.true_and] at hd;exact hd
theorem gSym_one {α : Type} [Inhabited α] {R : α → α → Bool} (hR : SWO R) {l : List α} {a b j : Int} (h : 0 ≤ a ∧ a + 1 < b ∧ b ≤ l.length) (hs : Srt R (a + 1) b l) (hj : a + 1 ≤ j ∧ j ≤ b) (h1 : ∀ q, a + 1 ≤ q → q < j → R (gi l q) (gi l a) = true) (h2 : ∀ q, j ≤ q → q < b → R (gi l q) (gi l a) = false) :
    MrgOk R a b l (loopW (fun (v2:Int×(List α)) next=>bif (decide (v2.1<(j - 1))) then (next (v2.1+1,(swp v2.2 v2.1 (v2.1+1)))) else v2.2) ((j - a).toNat+1) (a,l))∧Srt R a b (loopW (fun (v2:Int×(List α)) next=>bif (decide (v2.1<(j - 1))) then (next (v2.1+1,(swp v2.2 v2.1 (v2.1+1)))) else v2.2) ((j - a).toNat+1) (a,l)):=by
 suffices key:(fun r:List α=>MrgOk R a b l r∧Srt R a b r) (loopW (fun (v2:Int×(List α)) next=>bif (decide (v2.1<(j - 1))) then (next (v2.1+1,(swp v2.2 v2.1 (v2.1+1)))) else v2.2) ((j - a).toNat+1) (a,l)) from key
 refine loopW_to (fun v => (a ≤ v.1 ∧ v.1 ≤ j - 1) ∧ MrgOk R a b l v.2 ∧ ∀ q, 0 ≤ q → gi v.2 q = if a ≤ q ∧ q < v.1 then gi l (q + 1) else if q = v.1 then gi l a else gi l q) (fun v => (j - v.1).toNat) (fun r => MrgOk R a b l r ∧ Srt R a b r) (fun v next hv hn => ?_) _ _ (by dsimp only; omega)
   ⟨by dsimp only;omega,.refl R a b l,fun q hq=>by
     dsimp only
     rw [if_neg (by omega)]
     by_cases c:q=a
     · rw [if_pos c,c]
     · rw [if_neg c]⟩
 obtain ⟨k,v⟩:=v
 dsimp only at hv hn ⊢
 obtain ⟨hk,hm,hg⟩:=hv
 have hl:=hm.len
 by_cases c:k<j - 1
 ·rw [decide_eq_true c]
  simp only [cond_true]
  have e1:gi v k=gi l a:=by rw [hg k (by omega),if_neg (by omega),if_pos rfl]
  have e2:gi v (k+1)=gi l (k+1):=by rw [hg (k+1) (by omega),if_neg (by omega),if_neg (by omega)]
  refine hn _ ⟨by dsimp only;omega,hm.trans (mrg_adj hR (k:=k) (by omega) (by rw [e1,e2];exact h1 _ (by omega) (by omega)) (.inl ⟨rfl,rfl⟩)),fun q hq=>?_⟩ (by dsimp only;omega)
  dsimp only
  rw [gi_swp v k (k+1) q (by omega) (by omega) hq]
  by_cases c1:q=k+1
  ·rw [if_pos c1,e1,if_neg (by omega),if_pos c1]
  ·rw [if_neg c1]
   by_cases c2:q=k
   ·rw [if_pos c2,e2,if_pos (by omega),c2]
   ·rw [if_neg c2,hg q hq]
    by_cases c3:a≤q∧q<k
    ·rw [if_pos c3,if_pos (by omega)]
    ·rw [if_neg c3,if_neg c2,if_neg (by omega),if_neg c1]
 ·rw [decide_eq_false c]
  simp only [cond_false]
  refine ⟨hm,fun p q g1 g2 g3=>?_⟩
  have hkj:k=j - 1:=by omega
  rw [hg p (by omega),hg q (by omega)]
  by_cases c1:p<k
  ·rw [if_pos (show a≤p∧p<k by omega)]
   by_cases c2:q<k
   ·rw [if_pos (by omega)];exact hs _ _ (by omega) (by omega) (by omega)
   ·rw [if_neg (by omega)]
    by_cases c3:q=k
    ·rw [if_pos c3];exact hR.asym _ _ (h1 _ (by omega) (by omega))
    ·rw [if_neg c3];exact hs _ _ (by omega) (by omega) (by omega)
  ·rw [if_neg (show ¬ (a≤p∧p<k) by omega),if_neg (show ¬ (a≤q∧q<k) by omega),if_neg (show ¬ q=k by omega)]
   by_cases c3:p=k
   ·rw [if_pos c3];exact h2 _ (by omega) g3
   ·rw [if_neg c3];exact hs _ _ (by omega) g2 g3
theorem gSym_last {α : Type} [Inhabited α] {R : α → α → Bool} (hR : SWO R) {l : List α} {a d j : Int} (h : 0 ≤ a ∧ a < d ∧ d + 1 ≤ l.length) (hs : Srt R a d l) (hj : a ≤ j ∧ j ≤ d) (h1 : ∀ q, a ≤ q → q < j → R (gi l d) (gi l q) = false) (h2 : ∀ q, j ≤ q → q < d → R (gi l d) (gi l q) = true) :
    MrgOk R a (d+1) l (loopW (fun (v4:Int×(List α)) next=>bif (decide (j<v4.1)) then (next (v4.1 - 1,(swp v4.2 v4.1 (v4.1 - 1)))) else v4.2) ((d - j).toNat+1) (d,l))∧Srt R a (d+1) (loopW (fun (v4:Int×(List α)) next=>bif (decide (j<v4.1)) then (next (v4.1 - 1,(swp v4.2 v4.1 (v4.1 - 1)))) else v4.2) ((d - j).toNat+1) (d,l)):=by
 suffices key:(fun r:List α=>MrgOk R a (d+1) l r∧Srt R a (d+1) r) (loopW (fun (v4:Int×(List α)) next=>bif (decide (j<v4.1)) then (next (v4.1 - 1,(swp v4.2 v4.1 (v4.1 - 1)))) else v4.2) ((d - j).toNat+1) (d,l)) from key
 refine loopW_to (fun v => (j ≤ v.1 ∧ v.1 ≤ d) ∧ MrgOk R a (d + 1) l v.2 ∧ ∀ q, 0 ≤ q → gi v.2 q = if v.1 < q ∧ q ≤ d then gi l (q - 1) else if q = v.1 then gi l d else gi l q) (fun v => (v.1 - j).toNat) (fun r => MrgOk R a (d + 1) l r ∧ Srt R a (d + 1) r) (fun v next hv hn => ?_) _ _ (by dsimp only; omega)
   ⟨by dsimp only;omega,.refl R a (d+1) l,fun q hq=>by
     dsimp only
     rw [if_neg (by omega)]
     by_cases c:q=d
     · rw [if_pos c,c]
     · rw [if_neg c]⟩
 obtain ⟨k,v⟩:=v
 dsimp only at hv hn ⊢
 obtain ⟨hk,hm,hg⟩:=hv
 have hl:=hm.len
 by_cases c:j<k
 ·rw [decide_eq_true c]
  simp only [cond_true]
  have e1:gi v k=gi l d:=by rw [hg k (by omega),if_neg (by omega),if_pos rfl]
  have e2:gi v (k - 1)=gi l (k - 1):=by rw [hg (k - 1) (by omega),if_neg (by omega),if_neg (by omega)]
  refine hn _ ⟨by dsimp only;omega,hm.trans (mrg_adj hR (k:=k - 1) (by omega) (by rw [show k - 1+1=k by omega,e1,e2];exact h2 _ (by omega) (by omega)) (.inr ⟨by omega,rfl⟩)),fun q hq=>?_⟩ (by dsimp only;omega)
  dsimp only
  rw [gi_swp v k (k - 1) q (by omega) (by omega) hq]
  by_cases c1:q=k - 1
  ·rw [if_pos c1,e1,if_neg (by omega),if_pos c1]
  ·rw [if_neg c1]
   by_cases c2:q=k
   ·rw [if_pos c2,e2,if_pos (by omega),c2]
   ·rw [if_neg c2,hg q hq]
    by_cases c3:k<q∧q≤d
    ·rw [if_pos c3,if_pos (by omega)]
    ·rw [if_neg c3,if_neg c2,if_neg (by omega),if_neg c1]
 ·rw [decide_eq_false c]
  simp only [cond_false]
  refine ⟨hm,fun p q g1 g2 g3=>?_⟩
  have hkj:k=j:=by omega
  rw [hg p (by omega),hg q (by omega)]
  by_cases c1:q<k
  ·rw [if_neg (show ¬ (k<p∧p≤d) by omega),if_neg (show ¬ p=k by omega),if_neg (show ¬ (k<q∧q≤d) by omega),if_neg (show ¬ q=k by omega)]
   exact hs _ _ g1 g2 (by omega)
  ·by_cases c2:q=k
   ·rw [if_neg (show ¬ (k<p∧p≤d) by omega),if_neg (show ¬ p=k by omega),if_neg (show ¬ (k<q∧q≤d) by omega),if_pos c2]
    exact h1 _ g1 (by omega)
   ·rw [if_pos (show k<q∧q≤d by omega)]
    by_cases c3:p<k
    ·rw [if_neg (show ¬ (k<p∧p≤d) by omega),if_neg (show ¬ p=k by omega)]
     exact hs _ _ g1 (by omega) (by omega)
    ·by_cases c4:p=k
     ·rw [if_neg (show ¬ (k<p∧p≤d) by omega),if_pos c4]
      exact hR.asym _ _ (h2 _ (by omega) (by omega))
     ·rw [if_pos (show k<p∧p≤d by omega)]
      exact hs _ _ (by omega) (by omega) (by omega)
theorem gSym_ok {α : Type} [Inhabited α] {R : α → α → Bool} (hR : SWO R) : ∀ (m : Nat) {l : List α} {a d b : Int}, (b - a).toNat < m → 0 ≤ a ∧ a < d ∧ d < b ∧ b ≤ l.length → Srt R a d l → Srt R d b l → MrgOk R a b l (gSym R m l a d b) ∧ Srt R a b (gSym R m l a d b)
  | 0,l,a,d,b,hm,_,_,_=>absurd hm (Nat.not_lt_zero _)
  | m+1,l,a,d,b,hm,h,hs1,hs2=>by
    suffices key:(fun r:List α=>MrgOk R a b l r∧Srt R a b r) (gSym R (m+1) l a d b) from key
    rw [gSym]
    refine cond_both (p:=fun r:List α=>MrgOk R a b l r∧Srt R a b r) (fun c1=>?_) (fun c1=>cond_both (p:=fun r:List α=>MrgOk R a b l r∧Srt R a b r) (fun c2=>?_) (fun c2=>?_))
    · have c1:=of_decide_eq_true c1
      obtain rfl:d=a+1:=by omega
      refine jnQ (fun (j:Int)=>(a+1≤j∧j≤b)∧(∀ q,a+1≤q→q<j→R (gi l q) (gi l a)=true)∧∀ q,j≤q→q<b→R (gi l q) (gi l a)=false) (fun r:List α=>MrgOk R a b l r∧Srt R a b r) (fun K hK=>?_) (fun j hj=>gSym_one hR (by omega) hs2 hj.1 hj.2.1 hj.2.2)
      refine loopW_to (fun v=>(a+1≤v.1∧v.1≤v.2∧v.2≤b)∧(∀ q,a+1≤q→q<v.1→R (gi l q) (gi l a)=true)∧∀ q,v.2≤q→q<b→R (gi l q) (gi l a)=false) (fun v=>(v.2 - v.1).toNat) (fun r:List α=>MrgOk R a b l r∧Srt R a b r) (fun v next hv hn=>?_) _ _ (by dsimp only;omega) ⟨by dsimp only;omega,fun q g1 g2=>by dsimp only at g2;omega,fun q g1 g2=>by dsimp only at g1;omega⟩
      obtain ⟨hb,h1,h2⟩:=hv
      refine cond_both (p:=fun r:List α=>MrgOk R a b l r∧Srt R a b r) (fun hc=>?_) (fun hc=>hK _ ⟨by omega,h1,fun q g1 g2=>h2 q (by have:=of_decide_eq_false hc;omega) g2⟩)
      have hc:=of_decide_eq_true hc
      refine cond_both (p:=fun r:List α=>MrgOk R a b l r∧Srt R a b r) (fun hr=>hn _ ⟨by dsimp only;omega,fun q g1 g2=>?_,h2⟩ (by dsimp only;omega)) (fun hr=>hn _ ⟨by dsimp only;omega,h1,fun q g1 g2=>?_⟩ (by dsimp only;omega))
      · dsimp only at g2
        by_cases e:q=(v.1+v.2) / 2 ^ 1
        · rw [e];exact hr
        · exact hR.le_lt (hs2 q _ g1 (by omega) (by omega)) hr
      · dsimp only at g1
        by_cases e:q=(v.1+v.2) / 2 ^ 1
        · rw [e];exact hr
        · exact hR.ntr _ _ _ (hs2 _ q (by omega) (by omega) g2) hr
    · have c2:=of_decide_eq_true c2
      obtain rfl:b=d+1:=by omega
      refine jnQ (fun (j:Int)=>(a≤j∧j≤d)∧(∀ q,a≤q→q<j→R (gi l d) (gi l q)=false)∧∀ q,j≤q→q<d→R (gi l d) (gi l q)=true) (fun r:List α=>MrgOk R a (d+1) l r∧Srt R a (d+1) r) (fun K hK=>?_) (fun j hj=>gSym_last hR (by omega) hs1 hj.1 hj.2.1 hj.2.2)
      refine loopW_to (fun v=>(a≤v.1∧v.1≤v.2∧v.2≤d)∧(∀ q,a≤q→q<v.1→R (gi l d) (gi l q)=false)∧∀ q,v.2≤q→q<d→R (gi l d) (gi l q)=true) (fun v=>(v.2 - v.1).toNat) (fun r:List α=>MrgOk R a (d+1) l r∧Srt R a (d+1) r) (fun v next hv hn=>?_) _ _ (by dsimp only;omega) ⟨by dsimp only;omega,fun q g1 g2=>by dsimp only at g2;omega,fun q g1 g2=>by dsimp only at g1;omega⟩
      obtain ⟨hb,h1,h2⟩:=hv
      refine cond_both (p:=fun r:List α=>MrgOk R a (d+1) l r∧Srt R a (d+1) r) (fun hc=>?_) (fun hc=>hK _ ⟨by omega,h1,fun q g1 g2=>h2 q (by have:=of_decide_eq_false hc;omega) g2⟩)
      have hc:=of_decide_eq_true hc
      refine cond_both (p:=fun r:List α=>MrgOk R a (d+1) l r∧Srt R a (d+1) r) (fun hr=>hn _ ⟨by dsimp only;omega,fun q g1 g2=>?_,h2⟩ (by dsimp only;omega)) (fun hr=>hn _ ⟨by dsimp only;omega,h1,fun q g1 g2=>?_⟩ (by dsimp only;omega))
      · dsimp only at g2
        rw [Bool.not_eq_true'] at hr
        by_cases e:q=(v.1+v.2) / 2 ^ 1
        · rw [e];exact hr
        · exact hR.ntr _ _ _ hr (hs1 q _ g1 (by omega) (by omega))
      · dsimp only at g1
        rw [Bool.not_eq_false'] at hr
        by_cases e:q=(v.1+v.2) / 2 ^ 1
        · rw [e];exact hr
        · exact hR.lt_le hr (hs1 _ q (by omega) (by omega) g2)
    · have c1:=of_decide_eq_false c1
      have c2:=of_decide_eq_false c2
      have hM:∃ M,(a+b) / 2 ^ 1=M∧a<M∧M<b∧(2 * M=a+b∨2 * M+1=a+b):=⟨_,rfl,by omega,by omega,by omega⟩
      obtain ⟨M,eM,m1,m2,m3⟩:=hM
      rw [eM]
      have hmono:∀ c c',a≤c→c≤c'→c'<d→d≤M+d - 1 - c'→M+d - 1 - c<b→R (gi l (M+d - 1 - c)) (gi l c)=true→R (gi l (M+d - 1 - c')) (gi l c')=true:=by
        intro c c' g1 g2 g3 g4 g5 hr
        by_cases e:c=c'
        · rw [← e];exact hr
        · exact hR.lt_le (hR.le_lt (hs2 (M+d - 1 - c') (M+d - 1 - c) g4 (by omega) g5) hr) (hs1 c c' g1 (by omega) g3)
      refine jnQ (fun (j:Int×Int)=>(a≤j.1∧j.1≤j.2∧j.2≤d)∧(j.2≤M∧M+d - j.1≤b)∧(j.1=a∨M+d - j.1=b)∧(j.2=d∨j.2=M)) (fun r:List α=>MrgOk R a b l r∧Srt R a b r) (fun K hK=>?_) (fun j hj=>?_)
      · refine cond_both (p:=fun r:List α=>MrgOk R a b l r∧Srt R a b r) (fun hc=>hK _ ?_) (fun hc=>hK _ ?_)
        · have hc:=of_decide_eq_true hc;dsimp only;omega
        · have hc:=of_decide_eq_false hc;dsimp only;omega
      obtain ⟨s0,r0⟩:=j
      dsimp only at hj
      refine jnQ (fun (s:Int)=>(s0≤s∧s≤r0)∧(∀ c,s0≤c→c<s→R (gi l (M+d - 1 - c)) (gi l c)=false)∧∀ c,s≤c→c<r0→R (gi l (M+d - 1 - c)) (gi l c)=true) (fun r:List α=>MrgOk R a b l r∧Srt R a b r) (fun K hK=>?_) (fun s hs=>?_)
      · refine loopW_to (fun v=>(s0≤v.1∧v.1≤v.2∧v.2≤r0)∧(∀ c,s0≤c→c<v.1→R (gi l (M+d - 1 - c)) (gi l c)=false)∧∀ c,v.2≤c→c<r0→R (gi l (M+d - 1 - c)) (gi l c)=true) (fun v=>(v.2 - v.1).toNat) (fun r:List α=>MrgOk R a b l r∧Srt R a b r) (fun v next hv hn=>?_) _ _ (by dsimp only;omega) ⟨by dsimp only;omega,fun q g1 g2=>by dsimp only at g2;omega,fun q g1 g2=>by dsimp only at g1;omega⟩
        obtain ⟨hb,h1,h2⟩:=hv
        refine cond_both (p:=fun r:List α=>MrgOk R a b l r∧Srt R a b r) (fun hc=>?_) (fun hc=>hK _ ⟨by omega,h1,fun q g1 g2=>h2 q (by have:=of_decide_eq_false hc;omega) g2⟩)
        have hc:=of_decide_eq_true hc
        refine cond_both (p:=fun r:List α=>MrgOk R a b l r∧Srt R a b r) (fun hr=>hn _ ⟨by dsimp only;omega,fun q g1 g2=>?_,h2⟩ (by dsimp only;omega)) (fun hr=>hn _ ⟨by dsimp only;omega,h1,fun q g1 g2=>?_⟩ (by dsimp only;omega))
        · dsimp only at g2
          rw [Bool.not_eq_true'] at hr
          cases e:R (gi l (M+d - 1 - q)) (gi l q)
          · rfl
          · rw [hmono q _ (by omega) (by omega) (by omega) (by omega) (by omega) e] at hr;cases hr
        · dsimp only at g1
          rw [Bool.not_eq_false'] at hr
          exact hmono _ q (by omega) g1 (by omega) (by omega) (by omega) hr
      obtain ⟨hsb,hlo,hhi⟩:=hs
      have hE:∃ E,M+d - s=E∧d≤E∧E≤b∧M≤E:=⟨_,rfl,by omega,by omega,by omega⟩
      obtain ⟨E,eE,e1,e2,e3⟩:=hE
      rw [eE]
      have hst:∀ i j,s≤i→i<d→d≤j→j<E→R (gi l j) (gi l i)=true:=by
        intro i j g1 g2 g3 g4
        have hr:=hhi s (by omega) (by omega)
        rw [show M+d - 1 - s=E - 1 by omega] at hr
        have h1:R (gi l j) (gi l s)=true:=by
          by_cases e:j=E - 1
          · rw [e];exact hr
          · exact hR.le_lt (hs2 j (E - 1) g3 (by omega) (by omega)) hr
        by_cases e:i=s
        · rw [e];exact h1
        · exact hR.lt_le h1 (hs1 s i (by omega) (by omega) g2)
      refine jnQ (fun (x:List α)=>MrgOk R s E l x∧∀ q,0≤q→gi x q=rotAt l s d E q) (fun r:List α=>MrgOk R a b l r∧Srt R a b r) (fun K hK=>?_) (fun x hx=>?_)
      · refine cond_both (p:=fun r:List α=>MrgOk R a b l r∧Srt R a b r) (fun hc=>hK _ ?_) (fun hc=>hK _ ⟨.refl R s E l,fun q hq=>?_⟩)
        · simp only [Bool.and_eq_true,decide_eq_true_eq] at hc
          exact ⟨gRot_ok hR (by omega) hst,(gRot_gi (by omega)).2⟩
        · simp only [Bool.and_eq_false_iff,decide_eq_false_iff_not] at hc
          unfold rotAt
          by_cases q1:s≤q∧q<s+(E - d)
          · rw [if_pos q1,show q+(d - s)=q by omega]
          · rw [if_neg q1]
            by_cases q2:s+(E - d)≤q∧q<E
            · rw [if_pos q2,show q - (E - d)=q by omega]
            · rw [if_neg q2]
      obtain ⟨hxm,hxg⟩:=hx
      have hxl:=hxm.len
      have x1:∀ q,a≤q→q<s→gi x q=gi l q:=fun q g1 g2=>by rw [hxg q (by omega)];unfold rotAt;rw [if_neg (by omega),if_neg (by omega)]
      have x2:∀ q,s≤q→q<M→gi x q=gi l (q+(d - s)):=fun q g1 g2=>by rw [hxg q (by omega)];unfold rotAt;rw [if_pos (by omega)]
      have x3:∀ q,M≤q→q<E→gi x q=gi l (q - (E - d)):=fun q g1 g2=>by rw [hxg q (by omega)];unfold rotAt;rw [if_neg (by omega),if_pos (by omega)]
      have x4:∀ q,E≤q→q<b→gi x q=gi l q:=fun q g1 g2=>by rw [hxg q (by omega)];unfold rotAt;rw [if_neg (by omega),if_neg (by omega)]
      have y1:Srt R a s x:=fun i j g1 g2 g3=>by rw [x1 i g1 (by omega),x1 j (by omega) g3];exact hs1 i j g1 g2 (by omega)
      have y2:Srt R s M x:=fun i j g1 g2 g3=>by rw [x2 i g1 (by omega),x2 j (by omega) g3];exact hs2 _ _ (by omega) (by omega) (by omega)
      have y3:Srt R M E x:=fun i j g1 g2 g3=>by rw [x3 i g1 (by omega),x3 j (by omega) g3];exact hs1 _ _ (by omega) (by omega) (by omega)
      have y4:Srt R E b x:=fun i j g1 g2 g3=>by rw [x4 i g1 (by omega),x4 j (by omega) g3];exact hs2 i j (by omega) g2 g3
      have hcross:∀ i j,a≤i→i<M→M≤j→j<b→R (gi x j) (gi x i)=false:=by
        intro i j g1 g2 g3 g4
        by_cases p1:i<s
        · rw [x1 i g1 p1]
          by_cases p2:j<E
          · rw [x3 j g3 p2];exact hs1 i _ g1 (by omega) (by omega)
          · rw [x4 j (by omega) g4]
            have hr:=hlo (s - 1) (by omega) (by omega)
            rw [show M+d - 1 - (s - 1)=E by omega] at hr
            have h1:R (gi l j) (gi l (s - 1))=false:=by
              by_cases e:j=E
              · rw [e];exact hr
              · exact hR.ntr _ _ _ (hs2 E j (by omega) (by omega) g4) hr
            by_cases e:i=s - 1
            · rw [e];exact h1
            · exact hR.ntr _ _ _ h1 (hs1 i (s - 1) g1 (by omega) (by omega))
        · rw [x2 i (by omega) g2]
          by_cases p2:j<E
          · rw [x3 j g3 p2];exact hR.asym _ _ (hst _ _ (by omega) (by omega) (by omega) (by omega))
          · rw [x4 j (by omega) g4];exact hs2 _ _ (by omega) (by omega) g4
      refine jnQ (fun (z:List α)=>MrgOk R a M x z∧Srt R a M z) (fun r:List α=>MrgOk R a b l r∧Srt R a b r) (fun K hK=>?_) (fun z hz=>?_)
      · refine cond_both (p:=fun r:List α=>MrgOk R a b l r∧Srt R a b r) (fun hc=>hK _ ?_) (fun hc=>hK _ ⟨.refl R a M x,?_⟩)
        · simp only [Bool.and_eq_true,decide_eq_true_eq] at hc
          exact gSym_ok hR m (by omega) (by omega) y1 y2
        · simp only [Bool.and_eq_false_iff,decide_eq_false_iff_not] at hc
          by_cases q:a<s
          · exact y1.sub (Int.le_refl _) (by omega)
          · exact y2.sub (by omega) (Int.le_refl _)
      obtain ⟨hzm,hzs⟩:=hz
      have hzl:=hzm.len
      have hz3:Srt R M E z:=y3.same fun k g1 g2=>hzm.out k (by omega) (by omega)
      have hz4:Srt R E b z:=y4.same fun k g1 g2=>hzm.out k (by omega) (by omega)
      have hfin:∀ w,MrgOk R M b z w→Srt R M b w→MrgOk R a b l w∧Srt R a b w:=by
        intro w hw hws
        refine ⟨((hxm.mono (by omega) (by omega) e2).trans (hzm.mono (by omega) (Int.le_refl _) (by omega))).trans (hw.mono (by omega) (by omega) (Int.le_refl _)),fun i j g1 g2 g3=>?_⟩
        by_cases p1:M≤i
        · exact hws i j p1 g2 g3
        · rw [hw.out i (by omega) (by omega)]
          by_cases p2:j<M
          · rw [hw.out j (by omega) (by omega)];exact hzs i j g1 g2 p2
          · obtain ⟨j',j1,j2,ej⟩:=hw.inn j (by omega) g3
            obtain ⟨i',i1,i2,ei⟩:=hzm.inn i g1 (by omega)
            rw [ej,ei,hzm.out j' (by omega) (by omega)]
            exact hcross i' j' i1 i2 j1 j2
      refine cond_both (p:=fun r:List α=>MrgOk R a b l r∧Srt R a b r) (fun hc=>?_) (fun hc=>hfin z (.refl R M b z) ?_)
      · simp only [Bool.and_eq_true,decide_eq_true_eq] at hc
        have h9:=gSym_ok hR m (l:=z) (a:=M) (d:=E) (b:=b) (by omega) (by omega) hz3 hz4
        exact hfin _ h9.1 h9.2
      · simp only [Bool.and_eq_false_iff,decide_eq_false_iff_not] at hc
        by_cases q:M<E
        · exact hz3.sub (Int.le_refl _) (by omega)
        · exact hz4.sub (by omega) (Int.le_refl _)
inductive Runs {α : Type} [Inhabited α] (R : α → α → Bool) (B n : Int) (l : List α) : Int → Prop
  | nil {a:Int} (h:n≤a):Runs R B n l a
  | cons {a:Int} (h:a<n) (s:Srt R a (min (a+B) n) l) (r:Runs R B n l (a+B)):Runs R B n l a
inductive LRuns {α : Type} [Inhabited α] (R : α → α → Bool) (B : Int) (l : List α) : Int → Prop
  | nil:LRuns R B l 0
  | snoc {a:Int} (h:LRuns R B l a) (s:Srt R a (a+B) l):LRuns R B l (a+B)
theorem LRuns.nonneg {α:Type} [Inhabited α] {R:α→α→Bool} {B a:Int} {l:List α} (h:LRuns R B l a) (hB:0<B):0≤a:=by
 induction h with
 | nil=>exact Int.le_refl _
 | snoc _ _ ih=>omega
theorem LRuns.run {α:Type} [Inhabited α] {R:α→α→Bool} {B a n:Int} {l:List α} (h:LRuns R B l a) (hB:0<B):a≤n→Runs R B n l a→Runs R B n l 0:=by
 induction h with
 | nil=>exact fun _ hr=>hr
 | @snoc a h s ih =>
  intro ha hr
  exact ih (by omega) (.cons (by omega) (by rw [Int.min_eq_left ha];exact s) hr)
theorem LRuns.keep {α:Type} [Inhabited α] {R:α→α→Bool} {B a:Int} {l l':List α} (h:LRuns R B l a) (hB:0<B):(∀ k,0≤k→k<a→gi l' k=gi l k)→LRuns R B l' a:=by
 induction h with
 | nil=>exact fun _=>.nil
 | @snoc a h s ih =>
  intro hk
  have:=h.nonneg hB
  exact .snoc (ih fun k h0 h1=>hk k h0 (by omega)) (s.same fun k h0 h1=>hk k (by omega) h1)
theorem Runs.keep {α:Type} [Inhabited α] {R:α→α→Bool} {B n a:Int} {l l':List α} (h:Runs R B n l a) (hB:0<B):(∀ k,a≤k→k<n→gi l' k=gi l k)→Runs R B n l' a:=by
 induction h with
 | nil h=>exact fun _=>.nil h
 | @cons a h s r ih =>
  intro hk
  exact .cons h (s.same fun k h0 h1=>hk k h0 (by omega)) (ih fun k h0 h1=>hk k (by omega) h1)
theorem Runs.last {α:Type} [Inhabited α] {R:α→α→Bool} {B n a:Int} {l:List α} (h:Runs R B n l a) (hn:n≤a+B):Srt R a n l:=by
 cases h with
 | nil h=>exact fun i j g1 g2 g3=>by omega
 | cons h s r=>rw [Int.min_eq_right hn] at s;exact s
theorem Runs.of_last {α:Type} [Inhabited α] {R:α→α→Bool} {B n a:Int} {l:List α} (h:Srt R a n l) (hn:n≤a+B):Runs R B n l a:=by
 by_cases c:a<n
 ·exact .cons c (by rw [Int.min_eq_right hn];exact h) (.nil hn)
 ·exact .nil (by omega)
theorem gStb_ok {α:Type} [Inhabited α] {R:α→α→Bool} (hR:SWO R) {l:List α} {n:Int} (hn:n=l.length) (h255:n≤255):MrgOk R 0 n l (gStb R l n)∧Srt R 0 n (gStb R l n):=by
 suffices key:(fun r:List α=>MrgOk R 0 n l r∧Srt R 0 n r) (gStb R l n) from key
 unfold gStb
 refine loopW_to (fun v=>(0≤v.1∧v.1≤n∧v.2.1=v.1+20)∧MrgOk R 0 n l v.2.2∧LRuns R 20 v.2.2 v.1) (fun v=>(n+20 - v.2.1).toNat) (fun r:List α=>MrgOk R 0 n l r∧Srt R 0 n r) (fun v next hv hn1=>?_) _ _ (by dsimp only;omega) ⟨by dsimp only;omega,.refl R 0 n l,.nil⟩
 obtain ⟨a,b,v⟩:=v
 dsimp only at hv hn1 ⊢
 obtain ⟨⟨ha0,ha1,rfl⟩,hm,hl⟩:=hv
 have hvl:=hm.len
 by_cases c:a+20≤n
 ·rw [decide_eq_true c]
  simp only [cond_true,jn]
  have h9:=gIns_ok hR (l:=v) (a:=a) (b:=a+20) (by omega)
  exact hn1 _ ⟨by dsimp only;omega,hm.trans (h9.1.mono (Int.le_refl _) ha0 c),.snoc (hl.keep (by omega) fun k g0 g1=>h9.1.out k g0 (.inl g1)) h9.2⟩ (by dsimp only;omega)
 ·rw [decide_eq_false c]
  simp only [cond_false,jn]
  have h9:=gIns_ok hR (l:=v) (a:=a) (b:=n) (by omega)
  have hl9:=hl.keep (by omega) (l':=gIns R v a n) fun k g0 g1=>h9.1.out k g0 (.inl g1)
  have hr9:=hl9.run (by omega) ha1 (Runs.of_last h9.2 (by omega))
  refine loopW_to (fun w=>20≤w.1∧MrgOk R 0 n l w.2∧Runs R w.1 n w.2 0) (fun w=>(n+20 - w.1).toNat) (fun r:List α=>MrgOk R 0 n l r∧Srt R 0 n r) (fun w nx2 hw hn2=>?_) _ _ (by dsimp only;omega) ⟨Int.le_refl _,hm.trans (h9.1.mono (Int.le_refl _) ha0 (Int.le_refl _)),hr9⟩
  obtain ⟨B,w⟩:=w
  dsimp only at hw hn2 ⊢
  obtain ⟨hB,hwm,hwr⟩:=hw
  by_cases c2:B<n
  ·rw [decide_eq_true c2]
   simp only [cond_true]
   refine loopW_to (fun u=>(0≤u.1∧u.1≤n∧u.2.1=u.1+2 * B)∧MrgOk R 0 n l u.2.2∧LRuns R (2 * B) u.2.2 u.1∧Runs R B n u.2.2 u.1) (fun u=>(n+1000 - u.2.1).toNat) (fun r:List α=>MrgOk R 0 n l r∧Srt R 0 n r) (fun u next hu hn3=>?_) _ _ (by dsimp only;omega) ⟨by dsimp only;omega,hwm,.nil,hwr⟩
   obtain ⟨p,q,u⟩:=u
   dsimp only at hu hn3 ⊢
   obtain ⟨⟨hp0,hp1,rfl⟩,hum,hul,hur⟩:=hu
   have hulen:=hum.len
   by_cases c3:p+2 * B≤n
   ·rw [decide_eq_true c3]
    simp only [cond_true,jn]
    cases hur with
    | nil h=>omega
    | cons h s r =>
     rw [Int.min_eq_left (by omega)] at s
     cases r with
     | nil h=>omega
     | cons h2 s2 r2 =>
      rw [Int.min_eq_left (by omega)] at s2
      have e:p+B+B=p+2 * B:=by omega
      rw [e] at s2 r2
      have h8:=gSym_ok hR 256 (l:=u) (a:=p) (d:=p+B) (b:=p+2 * B) (by omega) (by omega) s s2
      exact hn3 _ ⟨by dsimp only;omega,hum.trans (h8.1.mono (Int.le_refl _) hp0 c3),.snoc (hul.keep (by omega) fun k g0 g1=>h8.1.out k g0 (.inl g1)) h8.2,r2.keep (by omega) fun k g0 g1=>h8.1.out k (by omega) (.inr g0)⟩ (by dsimp only;omega)
   ·rw [decide_eq_false c3]
    simp only [cond_false]
    by_cases c4:p+B<n
    ·rw [decide_eq_true c4]
     simp only [cond_true]
     cases hur with
     | nil h=>omega
     | cons h s r =>
      rw [Int.min_eq_left (by omega)] at s
      have s2:=r.last (by omega)
      have h8:=gSym_ok hR 256 (l:=u) (a:=p) (d:=p+B) (b:=n) (by omega) (by omega) s s2
      refine hn2 _ ⟨by dsimp only;omega,hum.trans (h8.1.mono (Int.le_refl _) hp0 (Int.le_refl _)),?_⟩ (by dsimp only;omega)
      dsimp only
      rw [Int.mul_comm B 2]
      exact (hul.keep (by omega) fun k g0 g1=>h8.1.out k g0 (.inl g1)).run (by omega) hp1 (Runs.of_last h8.2 (by omega))
    ·rw [decide_eq_false c4]
     simp only [cond_false]
     refine hn2 _ ⟨by dsimp only;omega,hum,?_⟩ (by dsimp only;omega)
     dsimp only
     rw [Int.mul_comm B 2]
     exact hul.run (by omega) hp1 (Runs.of_last (hur.last (by omega)) (by omega))
  ·rw [decide_eq_false c2]
   simp only [cond_false]
   exact ⟨hwm,hwr.last (by omega)⟩
def SrtL {α:Type} (R:α→α→Bool) (l:List α):Prop:=l.Pairwise fun x y=>R y x=false
theorem gStb_fin {α:Type} [Inhabited α] {R:α→α→Bool} (hR:SWO R) {l:List α} (h:l.length≤255):SrtL R (gStb R l l.length)∧StEq R l (gStb R l l.length):=by
 have h9:=gStb_ok hR (l:=l) (n:=l.length) rfl (by omega)
 refine ⟨Srt.pairwise ?_,h9.1.st⟩
 rw [h9.1.len];exact h9.2
theorem eqc_self {α:Type} {R:α→α→Bool} (hR:SWO R) (x:α):eqc R x x=true:=by unfold eqc;rw [hR.irr];rfl
theorem st_unique {α : Type} {R : α → α → Bool} (hR : SWO R) : ∀ {l m : List α}, SrtL R l → SrtL R m → StEq R l m → l = m
  | [],[],_,_,_=>rfl
  | [],b :: m,_,_,h=>by
    have:=h b
    rw [List.filter_cons,eqc_self hR] at this
    simp at this
  | a :: l,[],_,_,h=>by
    have:=h a
    rw [List.filter_cons,eqc_self hR] at this
    simp at this
  | a :: l,b :: m,hl,hm,h=>by
    obtain ⟨hl1,hl2⟩:=List.pairwise_cons.1 hl
    obtain ⟨hm1,hm2⟩:=List.pairwise_cons.1 hm
    have hla:∀ y∈a :: l,R y a=false:=fun y hy=>by
      rcases List.mem_cons.1 hy with e | e
      · rw [e];exact hR.irr a
      · exact hl1 y e
    have hmb:∀ y∈b :: m,R y b=false:=fun y hy=>by
      rcases List.mem_cons.1 hy with e | e
      · rw [e];exact hR.irr b
      · exact hm1 y e
    have h1:R b a=false:=by
      have hb:b∈(a :: l).filter (eqc R b)→R b a=false:=fun hm9=>hla b (List.mem_filter.1 hm9).1
      have hmem:b∈(b :: m).filter (eqc R b):=List.mem_filter.2 ⟨List.mem_cons_self,eqc_self hR b⟩
      rw [h b] at hmem
      exact hb hmem
    have h2:R a b=false:=by
      have hmem:a∈(a :: l).filter (eqc R a):=List.mem_filter.2 ⟨List.mem_cons_self,eqc_self hR a⟩
      rw [← h a] at hmem
      exact hmb a (List.mem_filter.1 hmem).1
    have hab:a=b:=by
      have h3:=h a
      have e1:eqc R a b=true:=by unfold eqc;rw [h1,h2];rfl
      rw [List.filter_cons,List.filter_cons,eqc_self hR,e1] at h3
      simp only [if_true] at h3
      exact (List.cons.inj h3).1.symm
    subst hab
    rw [st_unique hR hl2 hm2 fun x=>by
      have h3:=h x
      rw [List.filter_cons,List.filter_cons] at h3
      split at h3
      · exact (List.cons.inj h3).2
      · exact h3]
noncomputable def kvoP (d:Nat) (ids:List Nat) (l:List Int):Cl:=(.resM d ids [(900000,.arr 1 l.length (rowOf (cInt .i64) l)),(0,.var [.own 900000])] (.agg [.k Try.prog.globals.size 39,.vp 0 0,.int .u64 151]),k0 (P:=FnX Try.prog 152 [.ifc 39 (.own 900000)] [.arr 1 l.length (rowOf (cInt .i64) l)] (.agg [.k Try.prog.globals.size 39,.vp 0 0,.int .u64 151]) [(900000,.arr 1 l.length (rowOf (cInt .i64) l)),(0,.var [.own 900000])]) (FnX.valueOf (t:=39) (e:=3) (ti:=Try.t39) Try.func152 (by kernel_rfl) (by kernel_rfl) (by kernel_rfl) (by rfl) (by kernel_rfl) (by kernel_rfl)))
noncomputable def klnP (d:Nat) (ids:List Nat) (l:List Int):Cl:=(.resM d ids (enumB [.arr 1 l.length (rowOf (cInt .i64) l),.var [.own 900000]] 900000) (.int .i64 l.length),k0 (P:=FnX Try.prog 155 [.agg [.k Try.prog.globals.size 39,.vp 900001 0,.int .u64 151]] [.arr 1 l.length (rowOf (cInt .i64) l),.var [.own 900000]] (.int .i64 l.length) (enumB [.arr 1 l.length (rowOf (cInt .i64) l),.var [.own 900000]] 900000)) (FnX.valLen (t:=39) (e:=3) (ti:=Try.t39) Try.func155 (by kernel_rfl) (by kernel_rfl) (by kernel_rfl) (by rfl) (by kernel_rfl) (by kernel_rfl) (by kernel_rfl) (by kernel_rfl)))
noncomputable def kspP (d:Nat) (ids:List Nat) (l:List Int):Cl:=(.resM d ids (enumB [.arr 1 l.length (rowOf (cInt .i64) l)] 900000) (.clo 190 [.own 900000,.k Try.prog.globals.size 3]),k1 (P:=FnX Try.prog 153 [.ifc 39 (.own 900000)] [.arr 1 l.length (rowOf (cInt .i64) l)] (.clo 190 [.own 900000,.k Try.prog.globals.size 3]) (enumB [.arr 1 l.length (rowOf (cInt .i64) l)] 900000)) fun hn=>FnX.swapper (t:=39) (e:=3) (ti:=Try.t39) (ie:=Try.t3) (ke:=2) hn Try.func153 (by kernel_rfl) (by kernel_rfl) (by kernel_rfl) (by rfl) (by kernel_rfl) (by kernel_rfl) (by kernel_rfl) (fun w=>by kernel_rfl) (fun m=>⟨rfl,by decide⟩) (by kernel_rfl))

def C112P (x0:SrtP) (x1:Unit) (R:(List Int)):LV×List (Nat×BC):=(.tup [],[(900000,.arr 1 R.length (rowOf (cInt .i64) R)),(900001,.var [.ro false 6 x0.c0.people.length (rowOf (cPerson false) x0.c0.people),.ro false 4 x0.c0.unions.length (rowOf (cUnion false) x0.c0.unions)]),(900002,.var [.own 900000])])
def sliceP (x0:SrtP) (x1:Unit):(List Int):=stableP x0 (x0.l.length:Int)
noncomputable def A112P (x0:SrtP) (x1:Unit):Ann:=.reg 2 [] [(1,kvoP 7 [900000] x0.l),(1001,kspP 9 [900000] x0.l)] [1,4,5] [4,1007,900000,900001,900002] [] [] [] [0,4] (.reg 1 [] [(4,klnP 14 [900000,1007] x0.l),(5,k154P 15 [900000,900001,900002] x0 (x0.l.length:Int))] [] [900000,900001,900002] [] [] [] [0,4] (rt [(900000,some 900000),(900001,some 900001),(900002,some 900002)] (C112P x0 x1 (stableP x0 (x0.l.length:Int)))))
theorem sliceP_eq (x:SrtP):sliceP x ()=gStb (RP x) x.l x.l.length:=stableP_eq x _

theorem ok_sort_SliceStable_P (x0:SrtP) (x1:Unit) (hx:x0.l.length≤255) (hk:LkP x0 x0.l) (h2:2≤x0.l.length):FnMT Try.prog 112 [.ifc 39 (.own 900000),.clo 119 [.vp 900001 0,.vp 900002 0]] [.arr 1 x0.l.length (rowOf (cInt .i64) x0.l),.var [.ro false 6 x0.c0.people.length (rowOf (cPerson false) x0.c0.people),.ro false 4 x0.c0.unions.length (rowOf (cUnion false) x0.c0.unions)],.var [.own 900000]] (C112P x0 x1 (sliceP x0 x1)):=by
 have aux:∀ R,sliceP x0 x1=R→slim (C112P x0 x1 R) (A112P x0 x1) []:=by
  intro R hR
  refine rg ⟨trivial,by with_reducible assumption,trivial⟩ ?_
  refine rg ⟨trivial,⟨by with_reducible assumption,by with_reducible assumption,by (intros;omega)⟩,trivial⟩ ?_
  exact congrArg (C112P x0 x1) hR
 exact FnM.go 16 Try.func112 (by kernel_rfl) (by kernel_rfl) (A112P x0 x1) (by kernel_rfl) (aux _ rfl)
def k112P (d:Nat) (ids:List Nat) (x0:SrtP) (x1:Unit):Cl:=(hresM d ids (C112P x0 x1 (sliceP x0 x1)),k3 (ok_sort_SliceStable_P x0 x1))
structure SrtQ where
 c0:Family
 l:List Int
 deriving Inhabited

def C195Q (x0:SrtQ) (x1:Int) (x2:Int) (R:(List Int)):LV×List (Nat×BC):=(.tup [],[(900000,.arr 1 R.length (rowOf (cInt .i64) R)),(900001,.var [.ro false 6 x0.c0.people.length (rowOf (cPerson false) x0.c0.people),.ro false 4 x0.c0.unions.length (rowOf (cUnion false) x0.c0.unions)]),(900002,.var [.own 900000])])
def insSortQ (x0:SrtQ) (x1:Int) (x2:Int):(List Int):=loopW (fun (v1:Int) next=>x0.l) (0+1) (x1+1)
def D195Qb1 (x0:SrtQ) (x1:Int) (x2:Int) (v1:Int):Dl:=⟨[(6,.int .i64 v1)],[]⟩
def A195Qb1 (x0:SrtQ) (x1:Int) (x2:Int) (v1:Int):Ann:=r0 1 [1,2,3,6,12] [3,900000,900001,900002] (cn (decide (v1<x2)) (.next 99 [] ⟨[],[]⟩) (rt [(900000,some 900000),(900001,some 900001),(900002,some 900002)] (C195Q x0 x1 x2 x0.l)))
def A195Q (x0:SrtQ) (x1:Int) (x2:Int):Ann:=r1 2 [1,2,3,6] [3,900000,900001,900002] [pf (inR .i64 (x1+1))] [0] (.loop Int (D195Qb1 x0 x1 x2) [] [] [] (D195Qb1 x0 x1 x2 (x1+1)) (A195Qb1 x0 x1 x2))
theorem ok_sort_insertionSort_func_Q (x0:SrtQ) (x1:Int) (x2:Int) (hx:x0.l.length≤1) (hab:x1=0∧x2=x0.l.length):FnMT Try.prog 195 [.agg [.clo 119 [.vp 900001 0,.vp 900002 0],.fv],.int .i64 x1,.int .i64 x2] [.arr 1 x0.l.length (rowOf (cInt .i64) x0.l),.var [.ro false 6 x0.c0.people.length (rowOf (cPerson false) x0.c0.people),.ro false 4 x0.c0.unions.length (rowOf (cUnion false) x0.c0.unions)],.var [.own 900000]] (C195Q x0 x1 x2 (insSortQ x0 x1 x2)):=by
 have aux:∀ R,insSortQ x0 x1 x2=R→slim (C195Q x0 x1 x2 R) (A195Q x0 x1 x2) []:=by
  intro R hR
  refine rg ⟨by (simp only [decide_eq_true_eq,decide_eq_false_iff_not,inR] at *;omega),trivial⟩ ?_
  revert hR;refine lW (fun v=>x1+1≤v) (fun v=>0) (by (intros;omega)) (Nat.lt_succ_self _) rfl fun m1 v1 F1 hI1 hM1 hR hK1=>?_
  refine rg trivial ?_
  refine ⟨fun hq=>absurd hq (by simp only [decide_eq_true_eq,decide_eq_false_iff_not,Bool.not_eq_true,Bool.not_eq_false];omega),fun hc1=>?_⟩
  exact congrArg (C195Q x0 x1 x2) hR
 exact FnM.go 35 Try.func195 (by kernel_rfl) (by kernel_rfl) (A195Q x0 x1 x2) (by kernel_rfl) (aux _ rfl)
def k195Q (d:Nat) (ids:List Nat) (x0:SrtQ) (x1:Int) (x2:Int):Cl:=(hresM d ids (C195Q x0 x1 x2 (insSortQ x0 x1 x2)),k2 (ok_sort_insertionSort_func_Q x0 x1 x2))
def C154Q (x0:SrtQ) (x1:Int) (R:(List Int)):LV×List (Nat×BC):=(.tup [],[(900000,.arr 1 R.length (rowOf (cInt .i64) R)),(900001,.var [.ro false 6 x0.c0.people.length (rowOf (cPerson false) x0.c0.people),.ro false 4 x0.c0.unions.length (rowOf (cUnion false) x0.c0.unions)]),(900002,.var [.own 900000])])
def stableQ (x0:SrtQ) (x1:Int):(List Int):=loopW (fun (v1:Int×Int) next=>loopW (fun (v2:Int) next=>insSortQ x0 v1.1 x1) (0+1) 20) (0+1) (0,20)
def D154Qb1 (x0:SrtQ) (x1:Int) (v1:Int×Int):Dl:=⟨[(5,.int .i64 v1.1),(6,.int .i64 v1.2)],[]⟩
def D154Qb2 (x0:SrtQ) (x1:Int) (v1:Int×Int) (v2:Int):Dl:=⟨[(4,.int .i64 v2)],[]⟩
def A154Qb2 (x0:SrtQ) (x1:Int) (v1:Int×Int) (v2:Int):Ann:=r0 1 [1,2,4,26] [2,900000,900001,900002] (cn (decide (v2<x1)) (.next 99 [] ⟨[],[]⟩) (rt [(900000,some 900000),(900001,some 900001),(900002,some 900002)] (C154Q x0 x1 (insSortQ x0 v1.1 x1))))
def A154Qb1 (x0:SrtQ) (x1:Int) (v1:Int×Int):Ann:=r0 1 [1,2,4,5,6,11] [2,900000,900001,900002] (cn (decide (v1.2≤x1)) (.next 99 [] ⟨[],[]⟩) (.reg 1 [] [(3,k195Q 23 [900000,900001,900002] x0 v1.1 x1)] [1,2,4] [2,900000,900001,900002] [] [] [] [0] (.loop Int (D154Qb2 x0 x1 v1) [] [] [] (D154Qb2 x0 x1 v1 20) (A154Qb2 x0 x1 v1))))
def A154Q (x0:SrtQ) (x1:Int):Ann:=r0 3 [1,2,4,5,6] [2,900000,900001,900002] (.loop (Int×Int) (D154Qb1 x0 x1) [] [] [] (D154Qb1 x0 x1 (0,20)) (A154Qb1 x0 x1))
theorem ok_sort_stable_func_Q (x0:SrtQ) (x1:Int) (hx:x0.l.length≤1) (hn:x1=x0.l.length):FnMT Try.prog 154 [.agg [.clo 119 [.vp 900001 0,.vp 900002 0],.fv],.int .i64 x1] [.arr 1 x0.l.length (rowOf (cInt .i64) x0.l),.var [.ro false 6 x0.c0.people.length (rowOf (cPerson false) x0.c0.people),.ro false 4 x0.c0.unions.length (rowOf (cUnion false) x0.c0.unions)],.var [.own 900000]] (C154Q x0 x1 (stableQ x0 x1)):=by
 have aux:∀ R,stableQ x0 x1=R→slim (C154Q x0 x1 R) (A154Q x0 x1) []:=by
  intro R hR
  refine rg trivial ?_
  revert hR;refine lW (fun v=>v.1=0∧v.2=20) (fun v=>0) (by (intros;omega)) (Nat.lt_succ_self _) rfl fun m1 v1 F1 hI1 hM1 hR hK1=>?_
  refine rg trivial ?_
  refine ⟨fun hq=>absurd hq (by simp only [decide_eq_true_eq,decide_eq_false_iff_not,Bool.not_eq_true,Bool.not_eq_false];omega),fun hc1=>?_⟩
  refine rg ⟨⟨by with_reducible assumption,by (intros;omega)⟩,trivial⟩ ?_
  revert hR;refine lW (fun v=>v=20) (fun v=>0) (by (intros;omega)) (Nat.lt_succ_self _) rfl fun m2 v2 F2 hI2 hM2 hR hK2=>?_
  refine rg trivial ?_
  refine ⟨fun hq=>absurd hq (by simp only [decide_eq_true_eq,decide_eq_false_iff_not,Bool.not_eq_true,Bool.not_eq_false];omega),fun hc2=>?_⟩
  exact congrArg (C154Q x0 x1) hR
 exact FnM.go 57 Try.func154 (by kernel_rfl) (by kernel_rfl) (A154Q x0 x1) (by kernel_rfl) (aux _ rfl)
def k154Q (d:Nat) (ids:List Nat) (x0:SrtQ) (x1:Int):Cl:=(hresM d ids (C154Q x0 x1 (stableQ x0 x1)),k2 (ok_sort_stable_func_Q x0 x1))
noncomputable def kvoQ (d:Nat) (ids:List Nat) (l:List Int):Cl:=(.resM d ids [(900000,.arr 1 l.length (rowOf (cInt .i64) l)),(0,.var [.own 900000])] (.agg [.k Try.prog.globals.size 39,.vp 0 0,.int .u64 151]),k0 (P:=FnX Try.prog 152 [.ifc 39 (.own 900000)] [.arr 1 l.length (rowOf (cInt .i64) l)] (.agg [.k Try.prog.globals.size 39,.vp 0 0,.int .u64 151]) [(900000,.arr 1 l.length (rowOf (cInt .i64) l)),(0,.var [.own 900000])]) (FnX.valueOf (t:=39) (e:=3) (ti:=Try.t39) Try.func152 (by kernel_rfl) (by kernel_rfl) (by kernel_rfl) (by rfl) (by kernel_rfl) (by kernel_rfl)))
noncomputable def klnQ (d:Nat) (ids:List Nat) (l:List Int):Cl:=(.resM d ids (enumB [.arr 1 l.length (rowOf (cInt .i64) l),.var [.own 900000]] 900000) (.int .i64 l.length),k0 (P:=FnX Try.prog 155 [.agg [.k Try.prog.globals.size 39,.vp 900001 0,.int .u64 151]] [.arr 1 l.length (rowOf (cInt .i64) l),.var [.own 900000]] (.int .i64 l.length) (enumB [.arr 1 l.length (rowOf (cInt .i64) l),.var [.own 900000]] 900000)) (FnX.valLen (t:=39) (e:=3) (ti:=Try.t39) Try.func155 (by kernel_rfl) (by kernel_rfl) (by kernel_rfl) (by rfl) (by kernel_rfl) (by kernel_rfl) (by kernel_rfl) (by kernel_rfl)))
noncomputable def kspQ (d:Nat) (ids:List Nat) (l:List Int):Cl:=(.resM d ids (enumB [.arr 1 l.length (rowOf (cInt .i64) l)] 900000) .fv,k1 (P:=FnX Try.prog 153 [.ifc 39 (.own 900000)] [.arr 1 l.length (rowOf (cInt .i64) l)] .fv (enumB [.arr 1 l.length (rowOf (cInt .i64) l)] 900000)) fun hn=>FnX.swapper0 (t:=39) (e:=3) (ti:=Try.t39) (ie:=Try.t3) (ke:=2) (g0:=186) (g1:=187) hn Try.func153 (by kernel_rfl) (by kernel_rfl) (by kernel_rfl) (by rfl) (by kernel_rfl) (by kernel_rfl) (by kernel_rfl) (fun w=>by kernel_rfl) (by kernel_rfl) (by kernel_rfl))

def C112Q (x0:SrtQ) (x1:Unit) (R:(List Int)):LV×List (Nat×BC):=(.tup [],[(900000,.arr 1 R.length (rowOf (cInt .i64) R)),(900001,.var [.ro false 6 x0.c0.people.length (rowOf (cPerson false) x0.c0.people),.ro false 4 x0.c0.unions.length (rowOf (cUnion false) x0.c0.unions)]),(900002,.var [.own 900000])])
def sliceQ (x0:SrtQ) (x1:Unit):(List Int):=stableQ x0 (x0.l.length:Int)
noncomputable def A112Q (x0:SrtQ) (x1:Unit):Ann:=.reg 2 [] [(1,kvoQ 7 [900000] x0.l),(1001,kspQ 9 [900000] x0.l)] [1,4,5] [4,1007,900000,900001,900002] [] [] [] [0,4] (.reg 1 [] [(4,klnQ 14 [900000,1007] x0.l),(5,k154Q 15 [900000,900001,900002] x0 (x0.l.length:Int))] [] [900000,900001,900002] [] [] [] [0,4] (rt [(900000,some 900000),(900001,some 900001),(900002,some 900002)] (C112Q x0 x1 (stableQ x0 (x0.l.length:Int)))))
theorem sliceQ_eq (x:SrtQ):sliceQ x ()=x.l:=rfl

theorem ok_sort_SliceStable_Q (x0:SrtQ) (x1:Unit) (hx:x0.l.length≤1):FnMT Try.prog 112 [.ifc 39 (.own 900000),.clo 119 [.vp 900001 0,.vp 900002 0]] [.arr 1 x0.l.length (rowOf (cInt .i64) x0.l),.var [.ro false 6 x0.c0.people.length (rowOf (cPerson false) x0.c0.people),.ro false 4 x0.c0.unions.length (rowOf (cUnion false) x0.c0.unions)],.var [.own 900000]] (C112Q x0 x1 (sliceQ x0 x1)):=by
 have aux:∀ R,sliceQ x0 x1=R→slim (C112Q x0 x1 R) (A112Q x0 x1) []:=by
  intro R hR
  refine rg ⟨trivial,by with_reducible assumption,trivial⟩ ?_
  refine rg ⟨trivial,⟨by with_reducible assumption,by (intros;omega)⟩,trivial⟩ ?_
  exact congrArg (C112Q x0 x1) hR
 exact FnM.go 16 Try.func112 (by kernel_rfl) (by kernel_rfl) (A112Q x0 x1) (by kernel_rfl) (aux _ rfl)
def k112Q (d:Nat) (ids:List Nat) (x0:SrtQ) (x1:Unit):Cl:=(hresM d ids (C112Q x0 x1 (sliceQ x0 x1)),k1 (ok_sort_SliceStable_Q x0 x1))
end Go.Proofs.Ytepefimocflfkaa
