import Derived.Test.YtkkijpibajigfaaVL7
set_option maxHeartbeats 4000000
set_option linter.unusedSimpArgs false
set_option linter.unusedVariables false
namespace Go.Proofs.Ytkkijpibajigfaa
open Go Go.Lite Go.Proofs
def lexL : List Int → List Int → Bool
  | [],[]=>false
  | [],_ :: _=>true
  | _ :: _,[]=>false
  | x :: a,y :: b=>bif decide (x=y) then lexL a b else decide (x<y)
theorem lessInts_lex (a b:List Int):lessInts a b=lexL a b:=by
 have key:∀ (m i:Nat),i≤a.length→a.length - i<m→loopW (fun (v1:Int) next=>bif ((decide (v1<((a.length:Nat):Int))) && (decide (v1<((b.length:Nat):Int)))) then (bif (!decide ((a.getD v1.toNat default)=(b.getD v1.toNat default))) then (decide ((a.getD v1.toNat default)<(b.getD v1.toNat default))) else (next (v1+1))) else (decide (((a.length:Nat):Int)<((b.length:Nat):Int)))) m ((i:Nat):Int)=lexL (a.drop i) (b.drop i) ∨ b.length<i:=by
  intro m
  induction m with
  | zero=>intro i _ h;exact absurd h (Nat.not_lt_zero _)
  | succ m ih =>
   intro i hi hm
   by_cases hb:b.length<i
   ·exact .inr hb
   left
   rw [loopW]
   by_cases ca:i<a.length
   ·by_cases cb:i<b.length
    ·rw [decide_eq_true (show ((i:Nat):Int)<((a.length:Nat):Int) by omega),decide_eq_true (show ((i:Nat):Int)<((b.length:Nat):Int) by omega)]
     simp only [Bool.and_true,cond_true,Int.toNat_natCast]
     rw [List.drop_eq_getElem_cons ca,List.drop_eq_getElem_cons cb,lexL]
     have ea:a[i]=a.getD i default:=by rw [List.getD_eq_getElem?_getD,List.getElem?_eq_getElem ca];rfl
     have eb:b[i]=b.getD i default:=by rw [List.getD_eq_getElem?_getD,List.getElem?_eq_getElem cb];rfl
     simp only [ea,eb]
     by_cases e:a.getD i default=b.getD i default
     ·simp only [e,decide_true,Bool.not_true,cond_false,cond_true]
      rcases ih (i+1) (by omega) (by omega) with q | q
      ·exact q
      ·omega
     ·simp only [e,decide_false,Bool.not_false,cond_false,cond_true]
    ·rw [decide_eq_false (show ¬ ((i:Nat):Int)<((b.length:Nat):Int) by omega)]
     simp only [Bool.and_false,cond_false]
     rw [List.drop_eq_getElem_cons ca,List.drop_eq_nil_of_le (show b.length≤i by omega),lexL]
     exact decide_eq_false (by omega)
   ·rw [decide_eq_false (show ¬ ((i:Nat):Int)<((a.length:Nat):Int) by omega)]
    simp only [Bool.false_and,cond_false]
    rw [List.drop_eq_nil_of_le (show a.length≤i by omega)]
    by_cases cb:i<b.length
    ·rw [List.drop_eq_getElem_cons cb,lexL]
     exact decide_eq_true (by omega)
    ·rw [List.drop_eq_nil_of_le (show b.length≤i by omega),lexL]
     exact decide_eq_false (by omega)
 rcases key (((a.length:Int) - 0).toNat+1) 0 (Nat.zero_le _) (by omega) with h | h
 ·exact h
 ·exact absurd h (Nat.not_lt_zero _)
theorem lexL_irr : ∀ a, lexL a a = false
  | []=>rfl
  | x :: a=>by rw [lexL,decide_eq_true rfl];exact lexL_irr a
theorem lexL_asym : ∀ a b, lexL a b = true → lexL b a = false
  | [],[],h=>by cases h
  | [],_ :: _,_=>rfl
  | _ :: _,[],h=>by cases h
  | x :: a,y :: b,h=>by
    rw [lexL] at h ⊢
    by_cases e:x=y
    · rw [decide_eq_true e,cond_true] at h
      rw [decide_eq_true e.symm,cond_true]
      exact lexL_asym a b h
    · rw [decide_eq_false e,cond_false] at h
      rw [decide_eq_false (fun q=>e q.symm),cond_false]
      have:=of_decide_eq_true h
      exact decide_eq_false (by omega)
theorem lexL_ntr : ∀ a b c, lexL a b = false → lexL b c = false → lexL a c = false
  | [],[],c,_,h=>h
  | [],_ :: _,_,h,_=>by cases h
  | _ :: _,_,[],_,_=>rfl
  | _ :: _,[],_ :: _,_,h=>by cases h
  | x :: a,y :: b,z :: c,h1,h2=>by
    rw [lexL] at h1 h2 ⊢
    by_cases e1:x=y
    · rw [decide_eq_true e1,cond_true] at h1
      by_cases e2:y=z
      · rw [decide_eq_true e2,cond_true] at h2
        rw [decide_eq_true (e1.trans e2),cond_true]
        exact lexL_ntr a b c h1 h2
      · rw [decide_eq_false e2,cond_false] at h2
        rw [decide_eq_false (fun q=>e2 (e1.symm.trans q)),cond_false,e1]
        exact h2
    · rw [decide_eq_false e1,cond_false] at h1
      have:=of_decide_eq_false h1
      by_cases e2:y=z
      · rw [decide_eq_false (fun q=>e1 (q.trans e2.symm)),cond_false]
        exact decide_eq_false (by omega)
      · rw [decide_eq_false e2,cond_false] at h2
        have:=of_decide_eq_false h2
        rw [decide_eq_false (by omega),cond_false]
        exact decide_eq_false (by omega)
theorem lexL_eq : ∀ a b, lexL a b = false → lexL b a = false → a = b
  | [],[],_,_=>rfl
  | [],_ :: _,h,_=>by cases h
  | _ :: _,[],_,h=>by cases h
  | x :: a,y :: b,h1,h2=>by
    rw [lexL] at h1 h2
    by_cases e:x=y
    · rw [decide_eq_true e,cond_true] at h1
      rw [decide_eq_true e.symm,cond_true] at h2
      rw [e,lexL_eq a b h1 h2]
    · rw [decide_eq_false e,cond_false] at h1
      rw [decide_eq_false (fun q=>e q.symm),cond_false] at h2
      have h1:=of_decide_eq_false h1
      have h2:=of_decide_eq_false h2
      omega
theorem lines_swo:SWO lessInts :=
 ⟨fun x=>by rw [lessInts_lex];exact lexL_irr x,fun x y h=>by rw [lessInts_lex] at h ⊢;exact lexL_asym x y h,fun x y z h1 h2=>by rw [lessInts_lex] at h1 h2 ⊢;exact lexL_ntr x y z h1 h2⟩
theorem insSortL_srt (x0:SrtL) (x1 x2:Int) (h:0≤x1∧x1≤x2∧x2≤x0.l.length):Srt (lessInts) x1 x2 (insSortL x0 x1 x2):=by
 have hR:=lines_swo
 unfold insSortL
 refine loopW_to (fun (v:Int×List (List Int))=>(x1+1≤v.1∧(v.1≤x2 ∨ v.1=x1+1))∧v.2.length=x0.l.length∧Srt (lessInts) x1 v.1 v.2) (fun v=>(x2 - v.1).toNat) (fun l=>Srt (lessInts) x1 x2 l) (fun v next hv hn=>?_) _ _ (by dsimp only;omega) ⟨by dsimp only;omega,rfl,fun i j h1 h2 h3=>absurd h3 (by dsimp only;omega)⟩
 obtain ⟨hb,hl,hs⟩:=hv
 cases hc:decide (v.1<x2) with
 | false =>
  have hc:=of_decide_eq_false hc
  exact fun i j h1 h2 h3=>hs i j h1 h2 (by omega)
 | true =>
  have hc:=of_decide_eq_true hc
  refine loopW_to (fun (w:Int×List (List Int))=>w.2.length=x0.l.length∧InsI (lessInts) x1 v.1 w.1 w.2) (fun w=>w.1.toNat) (fun l=>Srt (lessInts) x1 x2 l) (fun w next2 hw hn2=>?_) _ _ (by dsimp only;omega) ⟨hl,InsI.start (by omega) hs⟩
  obtain ⟨hwl,hw⟩:=hw
  have hwb:=hw.b
  cases hd:decide (x1<w.1) && lineLess w.1 (w.1 - 1) w.2 with
  | false =>
   refine hn (_,_) ⟨by dsimp only;omega,hwl,hw.done hR fun hj=>?_⟩ (by dsimp only;omega)
   rw [decide_eq_true hj] at hd
   exact hd
  | true =>
   simp only [Bool.and_eq_true,decide_eq_true_eq] at hd
   exact hn2 (_,_) ⟨by rw [swp_len];exact hwl,hw.step hR (by omega) (by omega) hd.1 hd.2⟩ (by dsimp only;omega)
theorem siftDownL_heap (x0:SrtL) (lo hi first:Int) (h:0≤lo∧0≤first∧0≤hi∧first+hi≤x0.l.length) (hh:Heap (lessInts) first (lo+1) hi x0.l):Heap (lessInts) first lo hi (siftDownL x0 lo hi first):=by
 have hR:=lines_swo
 unfold siftDownL
 refine loopW_to (fun (v:Int×List (List Int))=>v.2.length=x0.l.length∧HeapI (lessInts) first lo hi v.1 v.2) (fun v=>(hi+255 - v.1).toNat) (fun l=>Heap (lessInts) first lo hi l) (fun v next hv hn=>?_) _ _ (by dsimp only;omega) ⟨rfl,HeapI.start h.1 hh⟩
 obtain ⟨hl,hv⟩:=hv
 have hb:=hv.b
 cases hc:decide (hi≤2 * v.1+1) with
 | true =>
  have hc:=of_decide_eq_true hc
  exact hv.done fun c h1 h2=>absurd h2 (by omega)
 | false =>
  have hc:=of_decide_eq_false hc
  cases hd:(decide (2 * v.1+1+1<hi)) && (lineLess (first+(2 * v.1+1)) ((first+(2 * v.1+1))+1) v.2) with
  | true =>
   simp only [Bool.and_eq_true,decide_eq_true_eq] at hd
   have hd2:lessInts (gi v.2 (first+(2 * v.1+1))) (gi v.2 (first+(2 * v.1+1)+1))=true:=hd.2
   rw [show first+(2 * v.1+1)+1=first+(2 * v.1+2) by omega] at hd2
   have e2:2 * v.1+1+1=2 * v.1+2:=by omega
   rw [e2]
   cases he:!(lineLess (first+v.1) (first+(2 * v.1+2)) v.2) with
   | true =>
    have he:lessInts (gi v.2 (first+v.1)) (gi v.2 (first+(2 * v.1+2)))=false:=(by simpa using he:lineLess (first+v.1) (first+(2 * v.1+2)) v.2=false)
    refine hv.done fun c h1 h2=>?_
    rcases h1 with h1 | h1
    ·subst h1;exact hR.ntr _ _ _ he (hR.asym _ _ hd2)
    ·subst h1;exact he
   | false =>
    have he:lessInts (gi v.2 (first+v.1)) (gi v.2 (first+(2 * v.1+2)))=true:=(by simpa using he:lineLess (first+v.1) (first+(2 * v.1+2)) v.2=true)
    refine hn (_,_) ⟨by rw [swp_len];exact hl,hv.step hR (by omega) (.inr rfl) (by omega) he fun d h1 h2=>?_⟩ (by dsimp only;omega)
    rcases h1 with h1 | h1
    ·subst h1;exact hR.asym _ _ hd2
    ·subst h1;exact hR.irr _
  | false =>
   have hd2:2 * v.1+2<hi→lessInts (gi v.2 (first+(2 * v.1+1))) (gi v.2 (first+(2 * v.1+2)))=false:=fun hk=>by
    rw [decide_eq_true (show 2 * v.1+1+1<hi by omega)] at hd
    rw [show first+(2 * v.1+2)=first+(2 * v.1+1)+1 by omega]
    exact hd
   cases he:!(lineLess (first+v.1) (first+(2 * v.1+1)) v.2) with
   | true =>
    have he:lessInts (gi v.2 (first+v.1)) (gi v.2 (first+(2 * v.1+1)))=false:=(by simpa using he:lineLess (first+v.1) (first+(2 * v.1+1)) v.2=false)
    refine hv.done fun c h1 h2=>?_
    rcases h1 with h1 | h1
    ·subst h1;exact he
    ·subst h1;exact hR.ntr _ _ _ he (hd2 h2)
   | false =>
    have he:lessInts (gi v.2 (first+v.1)) (gi v.2 (first+(2 * v.1+1)))=true:=(by simpa using he:lineLess (first+v.1) (first+(2 * v.1+1)) v.2=true)
    refine hn (_,_) ⟨by rw [swp_len];exact hl,hv.step hR (by omega) (.inl rfl) (by omega) he fun d h1 h2=>?_⟩ (by dsimp only;omega)
    rcases h1 with h1 | h1
    ·subst h1;exact hR.irr _
    ·subst h1;exact hd2 h2
theorem heapSortL_srt (x0:SrtL) (x1 x2:Int) (h:0≤x1∧x1≤x2∧x2≤x0.l.length):Srt (lessInts) x1 x2 (heapSortL x0 x1 x2):=by
 have hR:=lines_swo
 have h2:=tdiv2 (x2 - x1 - 1) (by omega)
 unfold heapSortL
 refine loopW_to (fun (v:Int×List (List Int))=>(-1≤v.1∧v.1≤(x2 - x1 - 1).tdiv 2)∧v.2.length=x0.l.length∧Heap (lessInts) x1 (v.1+1) (x2 - x1) v.2) (fun v=>(v.1+1).toNat) (fun l=>Srt (lessInts) x1 x2 l) (fun v next hv hn=>?_) _ _ (by dsimp only;omega) ⟨by dsimp only;omega,rfl,fun r c k1 k2 k3=>absurd k3 ?_⟩
 ·obtain ⟨hb,hl,hv⟩:=hv
  cases hc:decide (0≤v.1) with
  | true =>
   have hc:=of_decide_eq_true hc
   refine hn (_,_) ⟨by dsimp only;omega,?_,?_⟩ (by dsimp only;omega)
   ·exact (siftDownL_sw ⟨v.2⟩ v.1 (x2 - x1) x1 hc).len.trans hl
   ·have:=siftDownL_heap ⟨v.2⟩ v.1 (x2 - x1) x1 (by dsimp only;omega) hv
    dsimp only
    rw [show v.1 - 1+1=v.1 by omega]
    exact this
  | false =>
   have hc:=of_decide_eq_false hc
   have e:v.1=-1:=by omega
   rw [e] at hv
   refine loopW_to (fun (w:Int×List (List Int))=>(-1≤w.1∧w.1<x2 - x1)∧w.2.length=x0.l.length∧Heap (lessInts) x1 0 (w.1+1) w.2∧∀ i j,x1≤i→i<j→j<x2→x1+w.1<j→lessInts (gi w.2 j) (gi w.2 i)=false) (fun w=>(w.1+1).toNat) (fun l=>Srt (lessInts) x1 x2 l) (fun w next2 hw hn2=>?_) _ _ (by dsimp only;omega) ⟨by dsimp only;omega,hl,?_,fun i j k1 k2 k3 k4=>absurd k4 (by dsimp only;omega)⟩
   ·obtain ⟨hb,hl,hw,hd⟩:=hw
    cases hc:decide (0≤w.1) with
    | false =>
     have hc:=of_decide_eq_false hc
     exact fun i j k1 k2 k3=>hd i j k1 k2 k3 (by omega)
    | true =>
     have hc:=of_decide_eq_true hc
     have hg:=fun (k:Int) (hk:0≤k)=>gi_swp w.2 x1 (x1+w.1) k (by omega) (by omega) hk
     have hh:Heap (lessInts) x1 (0+1) w.1 (swp w.2 x1 (x1+w.1)):=fun r c k1 k2 k3=>by
      rw [hg (x1+r) (by omega),hg (x1+c) (by omega),if_neg (by omega),if_neg (by omega),if_neg (by omega),if_neg (by omega)]
      exact hw r c (by omega) k2 (by omega)
     have hs:=siftDownL_sw ⟨swp w.2 x1 (x1+w.1)⟩ 0 w.1 x1 (by omega)
     have hln:(swp w.2 x1 (x1+w.1)).length=x0.l.length:=by rw [swp_len];exact hl
     have ho:=fun (k:Int) (hk:0≤k) (h2:k<x1+0 ∨ x1+w.1≤k)=>hs.out (by omega) (by dsimp only;omega) hk h2
     refine hn2 (_,_) ⟨by dsimp only;omega,hs.len.trans hln,?_,fun i j k1 k2 k3 k4=>?_⟩ (by dsimp only;omega)
     ·have:=siftDownL_heap ⟨swp w.2 x1 (x1+w.1)⟩ 0 w.1 x1 (by dsimp only;omega) hh
      dsimp only
      rw [show w.1 - 1+1=w.1 by omega]
      exact this
     ·have k4:x1+(w.1 - 1)<j:=k4
      show lessInts (gi (siftDownL ⟨swp w.2 x1 (x1+w.1)⟩ 0 w.1 x1) j) (gi (siftDownL ⟨swp w.2 x1 (x1+w.1)⟩ 0 w.1 x1) i)=false
      rw [ho j (by omega) (by omega)]
      -- what holds of all that lies ahead of j
      have key:∀ k,x1≤k→k<j→lessInts (gi (swp w.2 x1 (x1+w.1)) j) (gi (swp w.2 x1 (x1+w.1)) k)=false:=fun k q1 q2=>by
       rw [hg j (by omega),hg k (by omega)]
       by_cases ej:j=x1+w.1
       ·rw [if_pos ej,if_neg (by omega)]
        split
        ·have:=hw.top hR w.1.toNat (by omega)
         rwa [show x1+((w.1.toNat:Nat):Int)=x1+w.1 by omega] at this
        ·have:=hw.top hR (k - x1).toNat (by omega)
         rwa [show x1+(((k - x1).toNat:Nat):Int)=k by omega] at this
       ·rw [if_neg ej,if_neg (by omega)]
        split
        ·exact hd x1 j (by omega) (by omega) k3 (by omega)
        ·split
         ·exact hd (x1+w.1) j (by omega) (by omega) k3 (by omega)
         ·exact hd k j q1 q2 k3 (by omega)
      by_cases ei:x1+w.1≤i
      ·rw [ho i (by omega) (by omega)];exact key i k1 k2
      ·exact hs.all (by omega) (by dsimp only;omega) (P:=fun y=>lessInts (gi (swp w.2 x1 (x1+w.1)) j) y=false) (fun k q1 q2=>key k (by omega) (by omega)) i (by omega) (by omega)
   ·dsimp only
    have e0:(-1:Int)+1=0:=by omega
    rw [e0] at hv
    rw [show x2 - x1 - 1+1=x2 - x1 by omega]
    exact hv
 ·dsimp only at k1 k2 k3 ⊢
  by_cases e:0≤x2 - x1 - 1
  ·have:(x2 - x1 - 1).tdiv 2=(x2 - x1 - 1) / 2:=Int.tdiv_eq_ediv_of_nonneg e
   omega
  ·omega
theorem Srt.up {R:List Int→List Int→Bool} (hR:SWO R) {a i:Int} {l:List (List Int)} (h:Srt R a i l) (hr:a<i→R (gi l i) (gi l (i - 1))=false):Srt R a (i+1) l :=
 Srt.adj hR fun k k1 k2=>by
  by_cases e:k=i
  ·subst e;exact hr k1
  ·exact h (k - 1) k (by omega) (by omega) (by omega)
theorem Srt.same {R:List Int→List Int→Bool} {a i:Int} {l l':List (List Int)} (h:Srt R a i l) (he:∀ k,a≤k→k<i→gi l' k=gi l k):Srt R a i l':=fun p q h1 h2 h3=>by
 rw [he p h1 (by omega),he q (by omega) h3];exact h p q h1 h2 h3
theorem partInsL_both (x0 : SrtL) (x1 x2 : Int) (h : 0 ≤ x1 ∧ x1 < x2 ∧ x2 ≤ x0.l.length) (pb : 0 < x1 → ∀ k, x1 ≤ k → k < x2 → lessInts (gi x0.l k) (gi x0.l (x1 - 1)) = false) :
    Sw x1 x2 x0.l (partInsL x0 x1 x2).2∧((partInsL x0 x1 x2).1=true→Srt lessInts x1 x2 (partInsL x0 x1 x2).2):=by
 have hR:=lines_swo
 unfold partInsL
 have pb2:∀ {l:List (List Int)},Sw x1 x2 x0.l l→0<x1→lessInts (gi l x1) (gi l (x1 - 1))=false:=fun {l} hs h0=>by
  rw [hs.out h.1 h.2.2 (k:=x1 - 1) (by omega) (.inl (by omega))]
  exact hs.all h.1 h.2.2 (P:=fun y=>lessInts y (gi x0.l (x1 - 1))=false) (pb h0) x1 (Int.le_refl _) h.2.1
 refine loopN_to (fun i (v:Int×List (List Int))=>(x1+1≤v.1∧v.1≤x2)∧Sw x1 x2 x0.l v.2∧Srt lessInts x1 v.1 v.2) (fun (r:Bool×List (List Int))=>Sw x1 x2 x0.l r.2∧(r.1=true→Srt lessInts x1 x2 r.2)) ⟨by dsimp only;omega,.refl,fun p q h1 h2 h3=>by dsimp only at h3;omega⟩ (fun i v nx hi hv hn=>?_) (fun v hv=>⟨hv.2.1,fun hq=>by cases hq⟩)
 obtain ⟨hvb,hvs,hvt⟩:=hv
 have hlen:=hvs.len
 refine loopW_to (fun (w:Int)=>(x1+1≤w∧w≤x2)∧Srt lessInts x1 w v.2) (fun w=>(x2 - w).toNat) (fun (r:Bool×List (List Int))=>Sw x1 x2 x0.l r.2∧(r.1=true→Srt lessInts x1 x2 r.2)) (fun w next hw hn2=>?_) _ _ (Nat.lt_succ_self _) ⟨hvb,hvt⟩
 obtain ⟨hwb,hwt⟩:=hw
 cases hd:decide (w<x2) && !(lineLess w (w - 1) v.2) with
 | true =>
  simp only [Bool.and_eq_true,decide_eq_true_eq,Bool.not_eq_true'] at hd
  exact hn2 _ ⟨by omega,hwt.up hR fun _=>hd.2⟩ (by omega)
 | false =>
  cases hx:decide (w=x2) with
  | true =>
   have hx:=of_decide_eq_true hx
   subst hx
   exact ⟨hvs,fun _=>hwt⟩
  | false =>
   have hx:=of_decide_eq_false hx
   cases decide (x2 - x1<50) with
   | true=>exact ⟨hvs,fun hq=>by cases hq⟩
   | false =>
    have hs1:Sw x1 x2 x0.l (swp v.2 w (w - 1)):=.step hvs _ _ (by omega) (by omega)
    have ht1:Srt lessInts x1 (w - 1) (swp v.2 w (w - 1)):=Srt.same (i:=w - 1) (fun p q h1 h2 h3=>hwt p q h1 h2 (by omega)) fun k k1 k2=>by
     rw [gi_swp _ _ _ _ (by omega) (by omega) (by omega),if_neg (by omega),if_neg (by omega)]
    simp only [cond_false]
    refine jn_to (fun (j:List (List Int))=>Sw x1 x2 x0.l j∧Srt lessInts x1 w j) (fun (r:Bool×List (List Int))=>Sw x1 x2 x0.l r.2∧(r.1=true→Srt lessInts x1 x2 r.2)) (fun K hK=>?_) (fun j1 h1=>?_)
    ·cases hg:decide (2≤w - x1) with
     | false =>
      have hg:=of_decide_eq_false hg
      exact hK _ ⟨hs1,fun p q h1 h2 h3=>by omega⟩
     | true =>
      have hg:=of_decide_eq_true hg
      refine loopW_to (fun (u:Int×List (List Int))=>Sw x1 x2 x0.l u.2∧InsI lessInts x1 (w - 1) u.1 u.2) (fun u=>u.1.toNat) (fun (r:Bool×List (List Int))=>Sw x1 x2 x0.l r.2∧(r.1=true→Srt lessInts x1 x2 r.2)) (fun u next3 hu hn3=>?_) _ _ (by dsimp only;omega) ⟨hs1,InsI.start (by omega) ht1⟩
      obtain ⟨hus,hui⟩:=hu
      have hub:=hui.b
      have hul:=hus.len
      cases hc:decide (1≤u.1) with
      | false =>
       have hc:=of_decide_eq_false hc
       refine hK _ ⟨hus,?_⟩
       have:=hui.done hR (fun hq=>by omega)
       rwa [show w - 1+1=w by omega] at this
      | true =>
       have hc:=of_decide_eq_true hc
       cases hl:lineLess u.1 (u.1 - 1) u.2 with
       | false =>
        refine hK _ ⟨hus,?_⟩
        have:=hui.done hR (fun _=>hl)
        rwa [show w - 1+1=w by omega] at this
       | true =>
        have hl:lessInts (gi u.2 u.1) (gi u.2 (u.1 - 1))=true:=hl
        have hgt:x1<u.1:=by
         by_cases q:x1<u.1
         ·exact q
         ·have e:u.1=x1:=by omega
          have:=pb2 hus (by omega)
          rw [e,this] at hl;cases hl
        exact hn3 _ ⟨.step hus _ _ (by omega) (by omega),hui.step hR h.1 (by omega) hgt hl⟩ (by dsimp only;omega)
    ·cases hg:decide (2≤x2 - w) with
     | false=>exact hn _ ⟨hwb,h1⟩
     | true =>
      refine loopW_to (fun (u:Int×List (List Int))=>w+1≤u.1∧Sw x1 x2 x0.l u.2∧Srt lessInts x1 w u.2) (fun u=>(x2 - u.1).toNat) (fun (r:Bool×List (List Int))=>Sw x1 x2 x0.l r.2∧(r.1=true→Srt lessInts x1 x2 r.2)) (fun u next4 hu hn4=>?_) _ _ (by dsimp only;omega) ⟨by dsimp only;omega,h1⟩
      obtain ⟨hub,hus,hut⟩:=hu
      have hul:=hus.len
      cases hc:decide (u.1<x2) with
      | false=>exact hn _ ⟨hwb,hus,hut⟩
      | true =>
       have hc:=of_decide_eq_true hc
       cases lineLess u.1 (u.1 - 1) u.2 with
       | false=>exact hn _ ⟨hwb,hus,hut⟩
       | true =>
        exact hn4 _ ⟨by dsimp only;omega,.step hus _ _ (by omega) (by omega),hut.same fun k k1 k2=>by rw [gi_swp _ _ _ _ (by omega) (by omega) (by omega),if_neg (by omega),if_neg (by omega)]⟩ (by dsimp only;omega)
theorem pdqL_r_both:∀ (m:Nat) (x0:SrtL) (x1 x2 x3:Int),0≤x1∧x1≤x2∧x2≤255→x2≤x0.l.length→(x2 - x1).toNat<m→(0<x1→∀ k,x1≤k→k<x2→lessInts (gi x0.l k) (gi x0.l (x1 - 1))=false)→Srt lessInts x1 x2 (pdqL_r m x0 x1 x2 x3)∧Sw x1 x2 x0.l (pdqL_r m x0 x1 x2 x3):=by
 intro m
 induction m with
 | zero=>intro x0 x1 x2 x3 h hl hm;exact absurd hm (Nat.not_lt_zero _)
 | succ m ih =>
  intro x0 x1 x2 x3 h hl hm hp0
  have hR:=lines_swo
  rw [pdqL_r]
  refine loopW_to (fun (v:Int×Int×Int×Bool×Bool×List (List Int))=>(x1≤v.1∧v.1≤v.2.1∧v.2.1≤x2)∧Sw x1 x2 x0.l v.2.2.2.2.2∧Done lessInts x1 x2 v.1 v.2.1 v.2.2.2.2.2) (fun v=>(v.2.1 - v.1).toNat) (fun (l:List (List Int))=>Srt lessInts x1 x2 l∧Sw x1 x2 x0.l l) (fun v next hv hn=>?_) _ _ (by dsimp only;omega) ⟨by dsimp only;omega,.refl,fun i j k1 k2 k3 k4=>absurd k4 (by dsimp only;omega),hp0⟩
  obtain ⟨hb,hvs,hs⟩:=hv
  have hlen:=hvs.len
  cases hc:decide (v.2.1 - v.1≤12) with
  | true =>
   have hw:=insSortL_sw ⟨v.2.2.2.2.2⟩ v.1 v.2.1 (by omega)
   exact ⟨(hs.sw hw (by omega)).fin (insSortL_srt ⟨v.2.2.2.2.2⟩ v.1 v.2.1 (by dsimp only;omega)),hvs.trans (hw.mono (by omega) (by omega))⟩
  | false =>
   have hc:=of_decide_eq_false hc
   cases decide (v.2.2.1=0) with
   | true =>
    have hw:=heapSortL_sw ⟨v.2.2.2.2.2⟩ v.1 v.2.1 (by omega)
    exact ⟨(hs.sw hw (by omega)).fin (heapSortL_srt ⟨v.2.2.2.2.2⟩ v.1 v.2.1 (by dsimp only;omega)),hvs.trans (hw.mono (by omega) (by omega))⟩
   | false =>
    rw [cond_false,cond_false]
    refine jn_to (fun (j:Int×List (List Int))=>Sw x1 x2 x0.l j.2∧Done lessInts x1 x2 v.1 v.2.1 j.2) (fun (l:List (List Int))=>Srt lessInts x1 x2 l∧Sw x1 x2 x0.l l) (fun K hK=>?_) (fun j3 h3=>?_)
    ·cases !v.2.2.2.1 with
     | true =>
      have hw:=breakPatL_sw ⟨v.2.2.2.2.2⟩ v.1 v.2.1 (by omega)
      exact hK (_,_) ⟨hvs.trans (hw.mono (by omega) (by omega)),hs.sw hw (by omega)⟩
     | false=>exact hK (_,_) ⟨hvs,hs⟩
    ·have hl3:=h3.1.len
     refine jn_to (fun (j:Int×Int)=>v.1≤j.1∧j.1<v.2.1) (fun (l:List (List Int))=>Srt lessInts x1 x2 l∧Sw x1 x2 x0.l l) (fun K hK=>hK (_,_) (choosePivotL_r ⟨j3.2⟩ v.1 v.2.1 (by omega))) (fun j5 h5=>?_)
     refine jn_to (fun (j:Int×Int×List (List Int))=>(v.1≤j.1∧j.1<v.2.1)∧Sw x1 x2 x0.l j.2.2∧Done lessInts x1 x2 v.1 v.2.1 j.2.2) (fun (l:List (List Int))=>Srt lessInts x1 x2 l∧Sw x1 x2 x0.l l) (fun K hK=>?_) (fun j6 h6=>?_)
     ·cases decide (j5.2=2) with
      | true =>
       have hw:=reverseRangeL_sw ⟨j3.2⟩ v.1 v.2.1 (by omega)
       exact hK (_,_,_) ⟨by dsimp only;omega,h3.1.trans (hw.mono (by omega) (by omega)),h3.2.sw hw (by omega)⟩
      | false=>exact hK (_,_,_) ⟨h5,h3⟩
     ·obtain ⟨h6,h6s⟩:=h6
      have hl6:=h6s.1.len
      refine jn_to (fun (j:List (List Int))=>Sw x1 x2 x0.l j∧Done lessInts x1 x2 v.1 v.2.1 j) (fun (l:List (List Int))=>Srt lessInts x1 x2 l∧Sw x1 x2 x0.l l) (fun K hK=>?_) (fun j8 h8=>?_)
      ·cases (v.2.2.2.1 && v.2.2.2.2.1) && (decide (j6.2.1=1)) with
       | false=>exact hK _ h6s
       | true =>
        rw [cond_true]
        have hpi:=partInsL_both ⟨j6.2.2⟩ v.1 v.2.1 (by dsimp only;omega) (fun h0 k k1 k2=>h6s.2.pb (by omega) h0 k k1 k2)
        have hsw:=h6s.1.trans (hpi.1.mono (by omega) (by omega))
        have hdn:=h6s.2.sw hpi.1 (by omega)
        cases hj:(partInsL ⟨j6.2.2⟩ v.1 v.2.1).1 with
        | true =>
         show Srt lessInts x1 x2 (bif true then (partInsL ⟨j6.2.2⟩ v.1 v.2.1).2 else K (partInsL ⟨j6.2.2⟩ v.1 v.2.1).2)∧Sw x1 x2 x0.l (bif true then (partInsL ⟨j6.2.2⟩ v.1 v.2.1).2 else K (partInsL ⟨j6.2.2⟩ v.1 v.2.1).2)
         rw [cond_true]
         exact ⟨hdn.fin (hpi.2 hj),hsw⟩
        | false =>
         show Srt lessInts x1 x2 (bif false then (partInsL ⟨j6.2.2⟩ v.1 v.2.1).2 else K (partInsL ⟨j6.2.2⟩ v.1 v.2.1).2)∧Sw x1 x2 x0.l (bif false then (partInsL ⟨j6.2.2⟩ v.1 v.2.1).2 else K (partInsL ⟨j6.2.2⟩ v.1 v.2.1).2)
         rw [cond_false]
         exact hK _ ⟨hsw,hdn⟩
      ·obtain ⟨h8s,h8⟩:=h8
       have hl8:=h8s.len
       cases hq:(decide (0<v.1)) && (!(lineLess (v.1 - 1) j6.1 j8)) with
       | true =>
        simp only [Bool.and_eq_true,decide_eq_true_eq] at hq
        have hp:=partEqL_ok ⟨j8⟩ v.1 v.2.1 j6.1 (by omega) (by dsimp only;omega)
        have hpb:=hp.b
        have hc2:lessInts (gi j8 (v.1 - 1)) (gi j8 j6.1)=false:=(by simpa using hq.2:lineLess (v.1 - 1) j6.1 j8=false)
        exact hn (_,_,_,_,_,_) ⟨by dsimp only;omega,h8s.trans (hp.s.mono (by omega) (by omega)),h8.eqs hR (by omega) hq.1 hc2 hp.s hp.pv hp.lo hp.hi⟩ (by dsimp only;omega)
       | false =>
        have hp:=partL_ok ⟨j8⟩ v.1 v.2.1 j6.1 (by omega) (by dsimp only;omega)
        have hpb:=hp.b
        have hd11:=h8.sw hp.s (by omega)
        have hs11:=h8s.trans (hp.s.mono (by omega) (by omega))
        rw [cond_false]
        refine jn_to (fun (j:Int×Bool×List (List Int))=>(v.1≤j.1∧j.1<v.2.1)∧Sw x1 x2 x0.l j.2.2∧Done lessInts x1 x2 v.1 v.2.1 j.2.2∧(∀ k,v.1≤k→k<j.1→lessInts (gi j.2.2 k) (gi j.2.2 j.1)=true)∧∀ k,j.1<k→k<v.2.1→lessInts (gi j.2.2 k) (gi j.2.2 j.1)=false) (fun (l:List (List Int))=>Srt lessInts x1 x2 l∧Sw x1 x2 x0.l l) (fun K hK=>hK (_,_,_) ⟨hpb,hs11,hd11,fun k k1 k2=>by dsimp only at k2 ⊢;rw [hp.pv];exact hp.lo k k1 k2,fun k k1 k2=>by dsimp only at k1 ⊢;rw [hp.pv];exact hp.hi k k1 k2⟩) (fun j11 h11=>?_)
        obtain ⟨h11,hs11,hd11,hlo,hhi⟩:=h11
        have hl11:=hs11.len
        cases decide ((j11.1 - v.1)<(v.2.1 - j11.1)) with
        | true =>
         obtain ⟨ht,hw⟩:=ih ⟨j11.2.2⟩ v.1 j11.1 j3.1 (by omega) (by dsimp only;omega) (by omega) (fun h0 k k1 k2=>hd11.pb (by omega) h0 k k1 (by omega))
         exact hn (_,_,_,_,_,_) ⟨by dsimp only;omega,hs11.trans (hw.mono (by omega) (by omega)),hd11.left hR (by omega) rfl hlo hhi hw ht⟩ (by dsimp only;omega)
        | false =>
         obtain ⟨ht,hw⟩:=ih ⟨j11.2.2⟩ (j11.1+1) v.2.1 j3.1 (by omega) (by dsimp only;omega) (by omega) (fun h0 k k1 k2=>by
          rw [show j11.1+1 - 1=j11.1 by omega]
          exact hhi k (by omega) k2)
         exact hn (_,_,_,_,_,_) ⟨(show x1≤v.1∧v.1≤j11.1∧j11.1≤x2 by omega),hs11.trans (hw.mono (by omega) (by omega)),hd11.right (mid:=j11.1) (a:=v.1) (b:=v.2.1) hR (by omega) rfl hlo hhi hw ht⟩ (by dsimp only;omega)
theorem pdqL_sorted (x0:SrtL) (x3:Int) (h:x0.l.length≤255):Srt lessInts 0 x0.l.length (pdqL x0 0 x0.l.length x3)∧(pdqL x0 0 x0.l.length x3).Perm x0.l:=by
 unfold pdqL
 have hb:=pdqL_r_both 256 x0 0 x0.l.length x3 (by omega) (by omega) (by omega) (fun h0=>absurd h0 (by omega))
 exact ⟨hb.1,hb.2.perm (by omega) (by omega)⟩
end Go.Proofs.Ytkkijpibajigfaa
