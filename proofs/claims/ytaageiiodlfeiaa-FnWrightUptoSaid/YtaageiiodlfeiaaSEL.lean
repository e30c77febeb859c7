import Derived.Test.YtaageiiodlfeiaaVL7
set_option maxHeartbeats 4000000
set_option linter.unusedSimpArgs false
set_option linter.unusedVariables false
namespace Go.Proofs.Ytaageiiodlfeiaa
open Go Go.Lite Go.Proofs
def lexL : List Int → List Int → Bool
  | [],[]=>false
  | [],_ :: _=>true
  | _ :: _,[]=>false
  | x :: a,y :: b=>bif decide (x=y) then lexL a b else decide (x<y)
theorem zgp (a b:List Int):zbu a b=lexL a b:=by
 have key:∀ (m i:Nat),i≤a.length→a.length - i<m→loopW (fun (v1:Int) next=>bif ((decide (v1<((a.length:Nat):Int)))&&(decide (v1<((b.length:Nat):Int)))) then (bif (!decide ((a.getD v1.toNat default)=(b.getD v1.toNat default))) then (decide ((a.getD v1.toNat default)<(b.getD v1.toNat default))) else (next (v1+1))) else (decide (((a.length:Nat):Int)<((b.length:Nat):Int)))) m ((i:Nat):Int)=lexL (a.drop i) (b.drop i)∨b.length<i:=by
  intro m
  induction m with
  | zero=>intro i _ h;exact absurd h (Nat.not_lt_zero _)
  | succ m ih =>
   intro i hi hm
   by_cases hb:b.length<i
   ·exact .inr hb
   left
   rw [loopW]
   by_cases ca:i<a.length
   ·by_cases cb:i<b.length
    ·rw [decide_eq_true (show ((i:Nat):Int)<((a.length:Nat):Int) by omega),decide_eq_true (show ((i:Nat):Int)<((b.length:Nat):Int) by omega)]
     simp only [Bool.and_true,cond_true,Int.toNat_natCast]
     rw [List.drop_eq_getElem_cons ca,List.drop_eq_getElem_cons cb,lexL]
     have ea:a[i]=a.getD i default:=by rw [List.getD_eq_getElem?_getD,List.getElem?_eq_getElem ca];rfl
     have eb:b[i]=b.getD i default:=by rw [List.getD_eq_getElem?_getD,List.getElem?_eq_getElem cb];rfl
     simp only [ea,eb]
     by_cases e:a.getD i default=b.getD i default
     ·simp only [e,decide_true,Bool.not_true,cond_false,cond_true]
      rcases ih (i+1) om om with q | q
      ·exact q
      ·omega
     ·simp only [e,decide_false,Bool.not_false,cond_false,cond_true]
    ·rw [decide_eq_false (show ¬ ((i:Nat):Int)<((b.length:Nat):Int) by omega)]
     simp only [Bool.and_false,cond_false]
     rw [List.drop_eq_getElem_cons ca,List.drop_eq_nil_of_le (show b.length≤i by omega),lexL]
     exact decide_eq_false om
   ·rw [decide_eq_false (show ¬ ((i:Nat):Int)<((a.length:Nat):Int) by omega)]
    simp only [Bool.false_and,cond_false]
    rw [List.drop_eq_nil_of_le (show a.length≤i by omega)]
    by_cases cb:i<b.length
    ·rw [List.drop_eq_getElem_cons cb,lexL]
     exact decide_eq_true om
    ·rw [List.drop_eq_nil_of_le (show b.length≤i by omega),lexL]
     exact decide_eq_false om
 rcases key (((a.length:Int) - 0).toNat+1) 0 (Nat.zero_le _) om with h | h
 ·exact h
 ·exact absurd h (Nat.not_lt_zero _)
theorem zp9 : ∀ a, lexL a a = false
  | []=>rfl
  | x :: a=>by rw [lexL,decide_eq_true rfl];exact zp9 a
theorem znd : ∀ a b, lexL a b = true → lexL b a = false
  | [],[],h=>by cases h
  | [],_ :: _,_=>rfl
  | _ :: _,[],h=>by cases h
  | x :: a,y :: b,h=>by
    rw [lexL] at h ⊢
    by_cases e:x=y
    · rw [decide_eq_true e,cond_true] at h
      rw [decide_eq_true e.symm,cond_true]
      exact znd a b h
    · rw [decide_eq_false e,cond_false] at h
      rw [decide_eq_false (fun q=>e q.symm),cond_false]
      have:=of_decide_eq_true h
      exact decide_eq_false om
theorem zun : ∀ a b c, lexL a b = false → lexL b c = false → lexL a c = false
  | [],[],c,_,h=>h
  | [],_ :: _,_,h,_=>by cases h
  | _ :: _,_,[],_,_=>rfl
  | _ :: _,[],_ :: _,_,h=>by cases h
  | x :: a,y :: b,z :: c,h1,h2=>by
    rw [lexL] at h1 h2 ⊢
    by_cases e1:x=y
    · rw [decide_eq_true e1,cond_true] at h1
      by_cases e2:y=z
      · rw [decide_eq_true e2,cond_true] at h2
        rw [decide_eq_true (e1.trans e2),cond_true]
        exact zun a b c h1 h2
      · rw [decide_eq_false e2,cond_false] at h2
        rw [decide_eq_false (fun q=>e2 (e1.symm.trans q)),cond_false,e1]
        exact h2
    · rw [decide_eq_false e1,cond_false] at h1
      have:=of_decide_eq_false h1
      by_cases e2:y=z
      · rw [decide_eq_false (fun q=>e1 (q.trans e2.symm)),cond_false]
        exact decide_eq_false om
      · rw [decide_eq_false e2,cond_false] at h2
        have:=of_decide_eq_false h2
        rw [decide_eq_false om,cond_false]
        exact decide_eq_false om
theorem zw9 : ∀ a b, lexL a b = false → lexL b a = false → a = b
  | [],[],_,_=>rfl
  | [],_ :: _,h,_=>by cases h
  | _ :: _,[],_,h=>by cases h
  | x :: a,y :: b,h1,h2=>by
    rw [lexL] at h1 h2
    by_cases e:x=y
    · rw [decide_eq_true e,cond_true] at h1
      rw [decide_eq_true e.symm,cond_true] at h2
      rw [e,zw9 a b h1 h2]
    · rw [decide_eq_false e,cond_false] at h1
      rw [decide_eq_false (fun q=>e q.symm),cond_false] at h2
      have h1:=of_decide_eq_false h1
      have h2:=of_decide_eq_false h2
      omega
theorem zik:SWO zbu :=
 ⟨fun x=>by rw [zgp];exact zp9 x,fun x y h=>by rw [zgp] at h ⊢;exact znd x y h,fun x y z h1 h2=>by rw [zgp] at h1 h2 ⊢;exact zun x y z h1 h2⟩
theorem zrw (x0:SrtL) (x1 x2:Int) (h:0≤x1∧x1≤x2∧x2≤x0.l.length):Srt (zbu) x1 x2 (zfk x0 x1 x2):=by
 have hR:=zik
 unfold zfk
 refine zcj (fun (v:Int×List (List Int))=>(x1+1≤v.1∧(v.1≤x2∨v.1=x1+1))∧v.2.length=x0.l.length∧Srt (zbu) x1 v.1 v.2) (fun v=>(x2 - v.1).toNat) (fun l=>Srt (zbu) x1 x2 l) (fun v next hv hn=>?_) _ _ zau ⟨by dsimp only;omega,rfl,fun i j h1 h2 h3=>absurd h3 zau⟩
 obtain ⟨hb,hl,hs⟩:=hv
 cases hc:decide (v.1<x2) with
 | false =>
  have hc:=of_decide_eq_false hc
  exact fun i j h1 h2 h3=>hs i j h1 h2 om
 | true =>
  have hc:=of_decide_eq_true hc
  refine zcj (fun (w:Int×List (List Int))=>w.2.length=x0.l.length∧InsI (zbu) x1 v.1 w.1 w.2) (fun w=>w.1.toNat) (fun l=>Srt (zbu) x1 x2 l) (fun w next2 hw hn2=>?_) _ _ zau ⟨hl,InsI.start om hs⟩
  obtain ⟨hwl,hw⟩:=hw
  have hwb:=hw.b
  cases hd:decide (x1<w.1)&&zb3 w.1 (w.1 - 1) w.2 with
  | false =>
   refine hn (_,_) ⟨by dsimp only;omega,hwl,hw.done hR fun hj=>?_⟩ zau
   rw [decide_eq_true hj] at hd
   exact hd
  | true =>
   simp only [Bool.and_eq_true,decide_eq_true_eq] at hd
   exact hn2 (_,_) ⟨by rw [zbs];exact hwl,hw.step hR om om hd.1 hd.2⟩ zau
theorem zja (x0:SrtL) (lo hi first:Int) (h:0≤lo∧0≤first∧0≤hi∧first+hi≤x0.l.length) (hh:Heap (zbu) first (lo+1) hi x0.l):Heap (zbu) first lo hi (zdm x0 lo hi first):=by
 have hR:=zik
 unfold zdm
 refine zcj (fun (v:Int×List (List Int))=>v.2.length=x0.l.length∧HeapI (zbu) first lo hi v.1 v.2) (fun v=>(hi+255 - v.1).toNat) (fun l=>Heap (zbu) first lo hi l) (fun v next hv hn=>?_) _ _ zau ⟨rfl,HeapI.start h.1 hh⟩
 obtain ⟨hl,hv⟩:=hv
 have hb:=hv.b
 cases hc:decide (hi≤2 * v.1+1) with
 | true =>
  have hc:=of_decide_eq_true hc
  exact hv.done fun c h1 h2=>absurd h2 om
 | false =>
  have hc:=of_decide_eq_false hc
  cases hd:(decide (2 * v.1+1+1<hi))&&(zb3 (first+(2 * v.1+1)) ((first+(2 * v.1+1))+1) v.2) with
  | true =>
   simp only [Bool.and_eq_true,decide_eq_true_eq] at hd
   have hd2:zbu (gi v.2 (first+(2 * v.1+1))) (gi v.2 (first+(2 * v.1+1)+1))=true:=hd.2
   rw [show first+(2 * v.1+1)+1=first+(2 * v.1+2) by omega] at hd2
   have e2:2 * v.1+1+1=2 * v.1+2:=by omega
   rw [e2]
   cases he:!(zb3 (first+v.1) (first+(2 * v.1+2)) v.2) with
   | true =>
    have he:zbu (gi v.2 (first+v.1)) (gi v.2 (first+(2 * v.1+2)))=false:=(by simpa using he:zb3 (first+v.1) (first+(2 * v.1+2)) v.2=false)
    refine hv.done fun c h1 h2=>?_
    rcases h1 with h1 | h1
    ·subst h1;exact hR.ntr _ _ _ he (hR.asym _ _ hd2)
    ·subst h1;exact he
   | false =>
    have he:zbu (gi v.2 (first+v.1)) (gi v.2 (first+(2 * v.1+2)))=true:=(by simpa using he:zb3 (first+v.1) (first+(2 * v.1+2)) v.2=true)
    refine hn (_,_) ⟨by rw [zbs];exact hl,hv.step hR om (.inr rfl) om he fun d h1 h2=>?_⟩ zau
    rcases h1 with h1 | h1
    ·subst h1;exact hR.asym _ _ hd2
    ·subst h1;exact hR.irr _
  | false =>
   have hd2:2 * v.1+2<hi→zbu (gi v.2 (first+(2 * v.1+1))) (gi v.2 (first+(2 * v.1+2)))=false:=fun hk=>by
    rw [decide_eq_true (show 2 * v.1+1+1<hi by omega)] at hd
    rw [show first+(2 * v.1+2)=first+(2 * v.1+1)+1 by omega]
    exact hd
   cases he:!(zb3 (first+v.1) (first+(2 * v.1+1)) v.2) with
   | true =>
    have he:zbu (gi v.2 (first+v.1)) (gi v.2 (first+(2 * v.1+1)))=false:=(by simpa using he:zb3 (first+v.1) (first+(2 * v.1+1)) v.2=false)
    refine hv.done fun c h1 h2=>?_
    rcases h1 with h1 | h1
    ·subst h1;exact he
    ·subst h1;exact hR.ntr _ _ _ he (hd2 h2)
   | false =>
    have he:zbu (gi v.2 (first+v.1)) (gi v.2 (first+(2 * v.1+1)))=true:=(by simpa using he:zb3 (first+v.1) (first+(2 * v.1+1)) v.2=true)
    refine hn (_,_) ⟨by rw [zbs];exact hl,hv.step hR om (.inl rfl) om he fun d h1 h2=>?_⟩ zau
    rcases h1 with h1 | h1
    ·subst h1;exact hR.irr _
    ·subst h1;exact hd2 h2
theorem zqc (x0:SrtL) (x1 x2:Int) (h:0≤x1∧x1≤x2∧x2≤x0.l.length):Srt (zbu) x1 x2 (zeo x0 x1 x2):=by
 have hR:=zik
 have h2:=tdiv2 (x2 - x1 - 1) om
 unfold zeo
 refine zcj (fun (v:Int×List (List Int))=>(-1≤v.1∧v.1≤(x2 - x1 - 1).tdiv 2)∧v.2.length=x0.l.length∧Heap (zbu) x1 (v.1+1) (x2 - x1) v.2) (fun v=>(v.1+1).toNat) (fun l=>Srt (zbu) x1 x2 l) (fun v next hv hn=>?_) _ _ zau ⟨by dsimp only;omega,rfl,fun r c k1 k2 k3=>absurd k3 ?_⟩
 ·obtain ⟨hb,hl,hv⟩:=hv
  cases hc:decide (0≤v.1) with
  | true =>
   have hc:=of_decide_eq_true hc
   refine hn (_,_) ⟨by dsimp only;omega,?_,?_⟩ zau
   ·exact (zd2 ⟨v.2⟩ v.1 (x2 - x1) x1 hc).len.trans hl
   ·have:=zja ⟨v.2⟩ v.1 (x2 - x1) x1 zau hv
    dsimp only
    rw [show v.1 - 1+1=v.1 by omega]
    exact this
  | false =>
   have hc:=of_decide_eq_false hc
   have e:v.1=-1:=by omega
   rw [e] at hv
   refine zcj (fun (w:Int×List (List Int))=>(-1≤w.1∧w.1<x2 - x1)∧w.2.length=x0.l.length∧Heap (zbu) x1 0 (w.1+1) w.2∧∀ i j,x1≤i→i<j→j<x2→x1+w.1<j→zbu (gi w.2 j) (gi w.2 i)=false) (fun w=>(w.1+1).toNat) (fun l=>Srt (zbu) x1 x2 l) (fun w next2 hw hn2=>?_) _ _ zau ⟨by dsimp only;omega,hl,?_,fun i j k1 k2 k3 k4=>absurd k4 zau⟩
   ·obtain ⟨hb,hl,hw,hd⟩:=hw
    cases hc:decide (0≤w.1) with
    | false =>
     have hc:=of_decide_eq_false hc
     exact fun i j k1 k2 k3=>hd i j k1 k2 k3 om
    | true =>
     have hc:=of_decide_eq_true hc
     have hg:=fun (k:Int) (hk:0≤k)=>zjh w.2 x1 (x1+w.1) k om om hk
     have hh:Heap (zbu) x1 (0+1) w.1 (swp w.2 x1 (x1+w.1)):=fun r c k1 k2 k3=>by
      rw [hg (x1+r) om,hg (x1+c) om,if_neg om,if_neg om,if_neg om,if_neg om]
      exact hw r c om k2 om
     have hs:=zd2 ⟨swp w.2 x1 (x1+w.1)⟩ 0 w.1 x1 om
     have hln:(swp w.2 x1 (x1+w.1)).length=x0.l.length:=by rw [zbs];exact hl
     have ho:=fun (k:Int) (hk:0≤k) (h2:k<x1+0∨x1+w.1≤k)=>hs.out om zau hk h2
     refine hn2 (_,_) ⟨by dsimp only;omega,hs.len.trans hln,?_,fun i j k1 k2 k3 k4=>?_⟩ zau
     ·have:=zja ⟨swp w.2 x1 (x1+w.1)⟩ 0 w.1 x1 zau hh
      dsimp only
      rw [show w.1 - 1+1=w.1 by omega]
      exact this
     ·have k4:x1+(w.1 - 1)<j:=k4
      show zbu (gi (zdm ⟨swp w.2 x1 (x1+w.1)⟩ 0 w.1 x1) j) (gi (zdm ⟨swp w.2 x1 (x1+w.1)⟩ 0 w.1 x1) i)=false
      rw [ho j om om]
      -- what holds of all that lies ahead of j
      have key:∀ k,x1≤k→k<j→zbu (gi (swp w.2 x1 (x1+w.1)) j) (gi (swp w.2 x1 (x1+w.1)) k)=false:=fun k q1 q2=>by
       rw [hg j om,hg k om]
       by_cases ej:j=x1+w.1
       ·rw [if_pos ej,if_neg om]
        split
        ·have:=hw.top hR w.1.toNat om
         rwa [show x1+((w.1.toNat:Nat):Int)=x1+w.1 by omega] at this
        ·have:=hw.top hR (k - x1).toNat om
         rwa [show x1+(((k - x1).toNat:Nat):Int)=k by omega] at this
       ·rw [if_neg ej,if_neg om]
        split
        ·exact hd x1 j om om k3 om
        ·split
         ·exact hd (x1+w.1) j om om k3 om
         ·exact hd k j q1 q2 k3 om
      by_cases ei:x1+w.1≤i
      ·rw [ho i om om];exact key i k1 k2
      ·exact hs.all om zau (P:=fun y=>zbu (gi (swp w.2 x1 (x1+w.1)) j) y=false) (fun k q1 q2=>key k om om) i om om
   ·dsimp only
    have e0:(-1:Int)+1=0:=by omega
    rw [e0] at hv
    rw [show x2 - x1 - 1+1=x2 - x1 by omega]
    exact hv
 ·dsimp only at k1 k2 k3 ⊢
  by_cases e:0≤x2 - x1 - 1
  ·have:(x2 - x1 - 1).tdiv 2=(x2 - x1 - 1) / 2:=Int.tdiv_eq_ediv_of_nonneg e
   omega
  ·omega
theorem Srt.up {R:List Int→List Int→Bool} (hR:SWO R) {a i:Int} {l:List (List Int)} (h:Srt R a i l) (hr:a<i→R (gi l i) (gi l (i - 1))=false):Srt R a (i+1) l :=
 Srt.adj hR fun k k1 k2=>by
  by_cases e:k=i
  ·subst e;exact hr k1
  ·exact h (k - 1) k om om om
theorem Srt.same {R:List Int→List Int→Bool} {a i:Int} {l l':List (List Int)} (h:Srt R a i l) (he:∀ k,a≤k→k<i→gi l' k=gi l k):Srt R a i l':=fun p q h1 h2 h3=>by
 rw [he p h1 om,he q om h3];exact h p q h1 h2 h3
theorem zpu (x0 : SrtL) (x1 x2 : Int) (h : 0 ≤ x1 ∧ x1 < x2 ∧ x2 ≤ x0.l.length) (pb : 0 < x1 → ∀ k, x1 ≤ k → k < x2 → zbu (gi x0.l k) (gi x0.l (x1 - 1)) = false) :
    Sw x1 x2 x0.l (zc2 x0 x1 x2).2∧((zc2 x0 x1 x2).1=true→Srt zbu x1 x2 (zc2 x0 x1 x2).2):=by
 have hR:=zik
 unfold zc2
 have pb2:∀ {l:List (List Int)},Sw x1 x2 x0.l l→0<x1→zbu (gi l x1) (gi l (x1 - 1))=false:=fun {l} hs h0=>by
  rw [hs.out h.1 h.2.2 (k:=x1 - 1) om (.inl om)]
  exact hs.all h.1 h.2.2 (P:=fun y=>zbu y (gi x0.l (x1 - 1))=false) (pb h0) x1 (Int.le_refl _) h.2.1
 refine zcc (fun i (v:Int×List (List Int))=>(x1+1≤v.1∧v.1≤x2)∧Sw x1 x2 x0.l v.2∧Srt zbu x1 v.1 v.2) (fun (r:Bool×List (List Int))=>Sw x1 x2 x0.l r.2∧(r.1=true→Srt zbu x1 x2 r.2)) ⟨by dsimp only;omega,.refl,fun p q h1 h2 h3=>by dsimp only at h3;omega⟩ (fun i v nx hi hv hn=>?_) (fun v hv=>⟨hv.2.1,fun hq=>by cases hq⟩)
 obtain ⟨hvb,hvs,hvt⟩:=hv
 have hlen:=hvs.len
 refine zcj (fun (w:Int)=>(x1+1≤w∧w≤x2)∧Srt zbu x1 w v.2) (fun w=>(x2 - w).toNat) (fun (r:Bool×List (List Int))=>Sw x1 x2 x0.l r.2∧(r.1=true→Srt zbu x1 x2 r.2)) (fun w next hw hn2=>?_) _ _ (Nat.lt_succ_self _) ⟨hvb,hvt⟩
 obtain ⟨hwb,hwt⟩:=hw
 cases hd:decide (w<x2)&&!(zb3 w (w - 1) v.2) with
 | true =>
  simp only [Bool.and_eq_true,decide_eq_true_eq,Bool.not_eq_true'] at hd
  exact hn2 _ ⟨om,hwt.up hR fun _=>hd.2⟩ om
 | false =>
  cases hx:decide (w=x2) with
  | true =>
   have hx:=of_decide_eq_true hx
   subst hx
   exact ⟨hvs,fun _=>hwt⟩
  | false =>
   have hx:=of_decide_eq_false hx
   cases decide (x2 - x1<50) with
   | true=>exact ⟨hvs,fun hq=>by cases hq⟩
   | false =>
    have hs1:Sw x1 x2 x0.l (swp v.2 w (w - 1)):=.step hvs _ _ om om
    have ht1:Srt zbu x1 (w - 1) (swp v.2 w (w - 1)):=Srt.same (i:=w - 1) (fun p q h1 h2 h3=>hwt p q h1 h2 om) fun k k1 k2=>by
     rw [zjh _ _ _ _ om om om,if_neg om,if_neg om]
    simp only [cond_false]
    refine jn_to (fun (j:List (List Int))=>Sw x1 x2 x0.l j∧Srt zbu x1 w j) (fun (r:Bool×List (List Int))=>Sw x1 x2 x0.l r.2∧(r.1=true→Srt zbu x1 x2 r.2)) (fun K hK=>?_) (fun j1 h1=>?_)
    ·cases hg:decide (2≤w - x1) with
     | false =>
      have hg:=of_decide_eq_false hg
      exact hK _ ⟨hs1,fun p q h1 h2 h3=>by omega⟩
     | true =>
      have hg:=of_decide_eq_true hg
      refine zcj (fun (u:Int×List (List Int))=>Sw x1 x2 x0.l u.2∧InsI zbu x1 (w - 1) u.1 u.2) (fun u=>u.1.toNat) (fun (r:Bool×List (List Int))=>Sw x1 x2 x0.l r.2∧(r.1=true→Srt zbu x1 x2 r.2)) (fun u next3 hu hn3=>?_) _ _ zau ⟨hs1,InsI.start om ht1⟩
      obtain ⟨hus,hui⟩:=hu
      have hub:=hui.b
      have hul:=hus.len
      cases hc:decide (1≤u.1) with
      | false =>
       have hc:=of_decide_eq_false hc
       refine hK _ ⟨hus,?_⟩
       have:=hui.done hR (fun hq=>by omega)
       rwa [show w - 1+1=w by omega] at this
      | true =>
       have hc:=of_decide_eq_true hc
       cases hl:zb3 u.1 (u.1 - 1) u.2 with
       | false =>
        refine hK _ ⟨hus,?_⟩
        have:=hui.done hR (fun _=>hl)
        rwa [show w - 1+1=w by omega] at this
       | true =>
        have hl:zbu (gi u.2 u.1) (gi u.2 (u.1 - 1))=true:=hl
        have hgt:x1<u.1:=by
         by_cases q:x1<u.1
         ·exact q
         ·have e:u.1=x1:=by omega
          have:=pb2 hus om
          rw [e,this] at hl;cases hl
        exact hn3 _ ⟨.step hus _ _ om om,hui.step hR h.1 om hgt hl⟩ zau
    ·cases hg:decide (2≤x2 - w) with
     | false=>exact hn _ ⟨hwb,h1⟩
     | true =>
      refine zcj (fun (u:Int×List (List Int))=>w+1≤u.1∧Sw x1 x2 x0.l u.2∧Srt zbu x1 w u.2) (fun u=>(x2 - u.1).toNat) (fun (r:Bool×List (List Int))=>Sw x1 x2 x0.l r.2∧(r.1=true→Srt zbu x1 x2 r.2)) (fun u next4 hu hn4=>?_) _ _ zau ⟨by dsimp only;omega,h1⟩
      obtain ⟨hub,hus,hut⟩:=hu
      have hul:=hus.len
      cases hc:decide (u.1<x2) with
      | false=>exact hn _ ⟨hwb,hus,hut⟩
      | true =>
       have hc:=of_decide_eq_true hc
       cases zb3 u.1 (u.1 - 1) u.2 with
       | false=>exact hn _ ⟨hwb,hus,hut⟩
       | true =>
        exact hn4 _ ⟨by dsimp only;omega,.step hus _ _ om om,hut.same fun k k1 k2=>by rw [zjh _ _ _ _ om om om,if_neg om,if_neg om]⟩ zau
theorem zso:∀ (m:Nat) (x0:SrtL) (x1 x2 x3:Int),0≤x1∧x1≤x2∧x2≤255→x2≤x0.l.length→(x2 - x1).toNat<m→(0<x1→∀ k,x1≤k→k<x2→zbu (gi x0.l k) (gi x0.l (x1 - 1))=false)→Srt zbu x1 x2 (zfn m x0 x1 x2 x3)∧Sw x1 x2 x0.l (zfn m x0 x1 x2 x3):=by
 intro m
 induction m with
 | zero=>intro x0 x1 x2 x3 h hl hm;exact absurd hm (Nat.not_lt_zero _)
 | succ m ih =>
  intro x0 x1 x2 x3 h hl hm hp0
  have hR:=zik
  rw [zfn]
  refine zcj (fun (v:Int×Int×Int×Bool×Bool×List (List Int))=>(x1≤v.1∧v.1≤v.2.1∧v.2.1≤x2)∧Sw x1 x2 x0.l v.2.2.2.2.2∧Done zbu x1 x2 v.1 v.2.1 v.2.2.2.2.2) (fun v=>(v.2.1 - v.1).toNat) (fun (l:List (List Int))=>Srt zbu x1 x2 l∧Sw x1 x2 x0.l l) (fun v next hv hn=>?_) _ _ zau ⟨by dsimp only;omega,.refl,fun i j k1 k2 k3 k4=>absurd k4 zau,hp0⟩
  obtain ⟨hb,hvs,hs⟩:=hv
  have hlen:=hvs.len
  cases hc:decide (v.2.1 - v.1≤12) with
  | true =>
   have hw:=zex ⟨v.2.2.2.2.2⟩ v.1 v.2.1 om
   exact ⟨(hs.sw hw om).fin (zrw ⟨v.2.2.2.2.2⟩ v.1 v.2.1 zau),hvs.trans (hw.mono om om)⟩
  | false =>
   have hc:=of_decide_eq_false hc
   cases decide (v.2.2.1=0) with
   | true =>
    have hw:=zee ⟨v.2.2.2.2.2⟩ v.1 v.2.1 om
    exact ⟨(hs.sw hw om).fin (zqc ⟨v.2.2.2.2.2⟩ v.1 v.2.1 zau),hvs.trans (hw.mono om om)⟩
   | false =>
    rw [cond_false,cond_false]
    refine jn_to (fun (j:Int×List (List Int))=>Sw x1 x2 x0.l j.2∧Done zbu x1 x2 v.1 v.2.1 j.2) (fun (l:List (List Int))=>Srt zbu x1 x2 l∧Sw x1 x2 x0.l l) (fun K hK=>?_) (fun j3 h3=>?_)
    ·cases !v.2.2.2.1 with
     | true =>
      have hw:=zef ⟨v.2.2.2.2.2⟩ v.1 v.2.1 om
      exact hK (_,_) ⟨hvs.trans (hw.mono om om),hs.sw hw om⟩
     | false=>exact hK (_,_) ⟨hvs,hs⟩
    ·have hl3:=h3.1.len
     refine jn_to (fun (j:Int×Int)=>v.1≤j.1∧j.1<v.2.1) (fun (l:List (List Int))=>Srt zbu x1 x2 l∧Sw x1 x2 x0.l l) (fun K hK=>hK (_,_) (zg9 ⟨j3.2⟩ v.1 v.2.1 om)) (fun j5 h5=>?_)
     refine jn_to (fun (j:Int×Int×List (List Int))=>(v.1≤j.1∧j.1<v.2.1)∧Sw x1 x2 x0.l j.2.2∧Done zbu x1 x2 v.1 v.2.1 j.2.2) (fun (l:List (List Int))=>Srt zbu x1 x2 l∧Sw x1 x2 x0.l l) (fun K hK=>?_) (fun j6 h6=>?_)
     ·cases decide (j5.2=2) with
      | true =>
       have hw:=zdg ⟨j3.2⟩ v.1 v.2.1 om
       exact hK (_,_,_) ⟨by dsimp only;omega,h3.1.trans (hw.mono om om),h3.2.sw hw om⟩
      | false=>exact hK (_,_,_) ⟨h5,h3⟩
     ·obtain ⟨h6,h6s⟩:=h6
      have hl6:=h6s.1.len
      refine jn_to (fun (j:List (List Int))=>Sw x1 x2 x0.l j∧Done zbu x1 x2 v.1 v.2.1 j) (fun (l:List (List Int))=>Srt zbu x1 x2 l∧Sw x1 x2 x0.l l) (fun K hK=>?_) (fun j8 h8=>?_)
      ·cases (v.2.2.2.1&&v.2.2.2.2.1)&&(decide (j6.2.1=1)) with
       | false=>exact hK _ h6s
       | true =>
        rw [cond_true]
        have hpi:=zpu ⟨j6.2.2⟩ v.1 v.2.1 zau (fun h0 k k1 k2=>h6s.2.pb om h0 k k1 k2)
        have hsw:=h6s.1.trans (hpi.1.mono om om)
        have hdn:=h6s.2.sw hpi.1 om
        cases hj:(zc2 ⟨j6.2.2⟩ v.1 v.2.1).1 with
        | true =>
         show Srt zbu x1 x2 (bif true then (zc2 ⟨j6.2.2⟩ v.1 v.2.1).2 else K (zc2 ⟨j6.2.2⟩ v.1 v.2.1).2)∧Sw x1 x2 x0.l (bif true then (zc2 ⟨j6.2.2⟩ v.1 v.2.1).2 else K (zc2 ⟨j6.2.2⟩ v.1 v.2.1).2)
         rw [cond_true]
         exact ⟨hdn.fin (hpi.2 hj),hsw⟩
        | false =>
         show Srt zbu x1 x2 (bif false then (zc2 ⟨j6.2.2⟩ v.1 v.2.1).2 else K (zc2 ⟨j6.2.2⟩ v.1 v.2.1).2)∧Sw x1 x2 x0.l (bif false then (zc2 ⟨j6.2.2⟩ v.1 v.2.1).2 else K (zc2 ⟨j6.2.2⟩ v.1 v.2.1).2)
         rw [cond_false]
         exact hK _ ⟨hsw,hdn⟩
      ·obtain ⟨h8s,h8⟩:=h8
       have hl8:=h8s.len
       cases hq:(decide (0<v.1))&&(!(zb3 (v.1 - 1) j6.1 j8)) with
       | true =>
        simp only [Bool.and_eq_true,decide_eq_true_eq] at hq
        have hp:=ziy ⟨j8⟩ v.1 v.2.1 j6.1 om zau
        have hpb:=hp.b
        have hc2:zbu (gi j8 (v.1 - 1)) (gi j8 j6.1)=false:=(by simpa using hq.2:zb3 (v.1 - 1) j6.1 j8=false)
        exact hn (_,_,_,_,_,_) ⟨by dsimp only;omega,h8s.trans (hp.s.mono om om),h8.eqs hR om hq.1 hc2 hp.s hp.pv hp.lo hp.hi⟩ zau
       | false =>
        have hp:=zl7 ⟨j8⟩ v.1 v.2.1 j6.1 om zau
        have hpb:=hp.b
        have hd11:=h8.sw hp.s om
        have hs11:=h8s.trans (hp.s.mono om om)
        rw [cond_false]
        refine jn_to (fun (j:Int×Bool×List (List Int))=>(v.1≤j.1∧j.1<v.2.1)∧Sw x1 x2 x0.l j.2.2∧Done zbu x1 x2 v.1 v.2.1 j.2.2∧(∀ k,v.1≤k→k<j.1→zbu (gi j.2.2 k) (gi j.2.2 j.1)=true)∧∀ k,j.1<k→k<v.2.1→zbu (gi j.2.2 k) (gi j.2.2 j.1)=false) (fun (l:List (List Int))=>Srt zbu x1 x2 l∧Sw x1 x2 x0.l l) (fun K hK=>hK (_,_,_) ⟨hpb,hs11,hd11,fun k k1 k2=>by dsimp only at k2 ⊢;rw [hp.pv];exact hp.lo k k1 k2,fun k k1 k2=>by dsimp only at k1 ⊢;rw [hp.pv];exact hp.hi k k1 k2⟩) (fun j11 h11=>?_)
        obtain ⟨h11,hs11,hd11,hlo,hhi⟩:=h11
        have hl11:=hs11.len
        cases decide ((j11.1 - v.1)<(v.2.1 - j11.1)) with
        | true =>
         obtain ⟨ht,hw⟩:=ih ⟨j11.2.2⟩ v.1 j11.1 j3.1 om zau om (fun h0 k k1 k2=>hd11.pb om h0 k k1 om)
         exact hn (_,_,_,_,_,_) ⟨by dsimp only;omega,hs11.trans (hw.mono om om),hd11.left hR om rfl hlo hhi hw ht⟩ zau
        | false =>
         obtain ⟨ht,hw⟩:=ih ⟨j11.2.2⟩ (j11.1+1) v.2.1 j3.1 om zau om (fun h0 k k1 k2=>by
          rw [show j11.1+1 - 1=j11.1 by omega]
          exact hhi k om k2)
         exact hn (_,_,_,_,_,_) ⟨(show x1≤v.1∧v.1≤j11.1∧j11.1≤x2 by omega),hs11.trans (hw.mono om om),hd11.right (mid:=j11.1) (a:=v.1) (b:=v.2.1) hR om rfl hlo hhi hw ht⟩ zau
theorem zms (x0:SrtL) (x3:Int) (h:x0.l.length≤255):Srt zbu 0 x0.l.length (pdqL x0 0 x0.l.length x3)∧(pdqL x0 0 x0.l.length x3).Perm x0.l:=by
 unfold pdqL
 have hb:=zso 256 x0 0 x0.l.length x3 om om om (fun h0=>absurd h0 om)
 exact ⟨hb.1,hb.2.perm om om⟩
end Go.Proofs.Ytaageiiodlfeiaa
