import Derived.Test.YtnibbmmljamolaaGreatVS7
set_option maxHeartbeats 4000000
set_option linter.unusedSimpArgs false
set_option linter.unusedVariables false
namespace Go.Proofs.YtnibbmmljamolaaGreat
open Go Go.Lite Go.Proofs
theorem zhr(f : yc) : SWO (zag f) := by
 refine⟨fun x=>?_,fun x y h=>?_,fun x y z h1 h2=>?_⟩
 ·simp [zag]
 ·simp only [zag, oj, oc, ob, Bool.or_eq_false_iff, Bool.and_eq_false_iff, oa] at *;omega
 simp only[zag,oj,oc,ob,Bool.or_eq_false_iff,Bool.and_eq_false_iff,oa] at *;omega
theorem zt6(x0 : ye)(x1 x2 : Int)(h : 0 ≤ x1 ∧ x1 ≤ x2 ∧ x2 ≤ x0.l.length) : Srt (zag x0.c0) x1 x2 (zdz x0 x1 x2) := by
 have hR:=zhr x0.c0;unfold zdz;refine za8 (fun (v:Int×List Int)=>(x1+1≤v.1∧(v.1≤x2∨v.1=x1+1))∧v.2.length=x0.l.length∧Srt (zag x0.c0) x1 v.1 v.2) (fun v=>(x2 - v.1).toNat) (fun l=>Srt (zag x0.c0) x1 x2 l) (fun v next hv hn=>?_) _ _ vcT ⟨vcT,rfl,fun i j h1 h2 h3=>absurd h3 vcT⟩;obtain⟨hb,hl,hs⟩:=hv;cases hc:decide (v.1<x2) with
 |false =>have hc:=oB hc;exact fun i j h1 h2 h3=>hs i j h1 h2 vdh
 |true =>
  have hc:=om hc;refine za8 (fun (w:Int×List Int)=>w.2.length=x0.l.length∧InsI (zag x0.c0) x1 v.1 w.1 w.2) (fun w=>w.1.toNat) (fun l=>Srt (zag x0.c0) x1 x2 l) (fun w next2 hw hn2=>?_) _ _ vcT ⟨hl,InsI.start vdh hs⟩;obtain⟨hwl,hw⟩:=hw;have hwb:=hw.b;cases hd:decide (x1<w.1)&&zal w.1 (w.1 - 1) x0.c0 w.2 with
  |false =>refine hn (_,_) ⟨vcT,hwl,hw.done hR fun hj=>?_⟩ vcT;rw[oM hj] at hd;exact hd
  |true =>simp only[oc,ob] at hd;exact hn2 (_,_) ⟨by rw[za4];exact hwl,hw.step hR vdh vdh hd.1 hd.2⟩ vcT
theorem zjt(x0 : ye)(lo hi first : Int)(h : 0 ≤ lo ∧ 0 ≤ first ∧ 0 ≤ hi ∧ first + hi ≤ x0.l.length)(hh : Heap (zag x0.c0) first (lo + 1) hi x0.l) : Heap (zag x0.c0) first lo hi (zb3 x0 lo hi first) := by
 have hR:=zhr x0.c0;unfold zb3;refine za8 (fun (v:Int×List Int)=>v.2.length=x0.l.length∧HeapI (zag x0.c0) first lo hi v.1 v.2) (fun v=>(hi+255 - v.1).toNat) (fun l=>Heap (zag x0.c0) first lo hi l) (fun v next hv hn=>?_) _ _ vcT ⟨rfl,HeapI.start h.1 hh⟩;obtain⟨hl,hv⟩:=hv;have hb:=hv.b;cases hc:decide (hi≤2 * v.1+1) with
 |true =>have hc:=om hc;exact hv.done fun c h1 h2=>absurd h2 vdh
 |false =>
  have hc:=oB hc;cases hd:(decide (2 * v.1+1+1<hi))&&(zal (first+(2 * v.1+1)) ((first+(2 * v.1+1))+1) x0.c0 v.2) with
  |true =>
   simp only[oc,ob] at hd;have hd2:zag x0.c0 (gi v.2 (first+(2 * v.1+1))) (gi v.2 (first+(2 * v.1+1)+1))=true:=hd.2;rw[show first+(2 * v.1+1)+1=first+(2 * v.1+2) by omega] at hd2;have e2:2 * v.1+1+1=2 * v.1+2:=vdh;rw[e2];cases he:!(zal (first+v.1) (first+(2 * v.1+2)) x0.c0 v.2) with
   |true =>
    have he:zag x0.c0 (gi v.2 (first+v.1)) (gi v.2 (first+(2 * v.1+2)))=false:=(by simpa using he:zal (first+v.1) (first+(2 * v.1+2)) x0.c0 v.2=false);refine hv.done fun c h1 h2=>?_;rcases h1 with h1|h1
    ·subst h1; exact hR.ntr _ _ _ he (hR.asym _ _ hd2)
    subst h1;exact he
   |false =>
    have he:zag x0.c0 (gi v.2 (first+v.1)) (gi v.2 (first+(2 * v.1+2)))=true:=(by simpa using he:zal (first+v.1) (first+(2 * v.1+2)) x0.c0 v.2=true);refine hn (_,_) ⟨by rw[za4];exact hl,hv.step hR vdh (.inr rfl) vdh he fun d h1 h2=>?_⟩ vcT;rcases h1 with h1|h1
    ·subst h1; exact hR.asym _ _ hd2
    subst h1;exact hR.irr _
  |false =>
   have hd2:2 * v.1+2<hi→zag x0.c0 (gi v.2 (first+(2 * v.1+1))) (gi v.2 (first+(2 * v.1+2)))=false:=fun hk=>(by rw[oM (show 2 * v.1+1+1<hi by omega)] at hd;rw[show first+(2 * v.1+2)=first+(2 * v.1+1)+1 by omega];exact hd);cases he:!(zal (first+v.1) (first+(2 * v.1+1)) x0.c0 v.2) with
   |true =>
    have he:zag x0.c0 (gi v.2 (first+v.1)) (gi v.2 (first+(2 * v.1+1)))=false:=(by simpa using he:zal (first+v.1) (first+(2 * v.1+1)) x0.c0 v.2=false);refine hv.done fun c h1 h2=>?_;rcases h1 with h1|h1
    ·subst h1; exact he
    subst h1;exact hR.ntr _ _ _ he (hd2 h2)
   |false =>
    have he:zag x0.c0 (gi v.2 (first+v.1)) (gi v.2 (first+(2 * v.1+1)))=true:=(by simpa using he:zal (first+v.1) (first+(2 * v.1+1)) x0.c0 v.2=true);refine hn (_,_) ⟨by rw[za4];exact hl,hv.step hR vdh (.inl rfl) vdh he fun d h1 h2=>?_⟩ vcT;rcases h1 with h1|h1
    ·subst h1; exact hR.irr _
    subst h1;exact hd2 h2
theorem zso(x0 : ye)(x1 x2 : Int)(h : 0 ≤ x1 ∧ x1 ≤ x2 ∧ x2 ≤ x0.l.length) : Srt (zag x0.c0) x1 x2 (zdf x0 x1 x2) := by
 have hR:=zhr x0.c0;have h2:=tdiv2 (x2 - x1 - 1) vdh;unfold zdf;refine za8 (fun (v:Int×List Int)=>(-1≤v.1∧v.1≤(x2 - x1 - 1).tdiv 2)∧v.2.length=x0.l.length∧Heap (zag x0.c0) x1 (v.1+1) (x2 - x1) v.2) (fun v=>(v.1+1).toNat) (fun l=>Srt (zag x0.c0) x1 x2 l) (fun v next hv hn=>?_) _ _ vcT ⟨vcT,rfl,fun r c k1 k2 k3=>absurd k3 ?_⟩
 ·obtain ⟨hb, hl, hv⟩ := hv;cases hc : decide (0 ≤ v.1) with
  |true =>
   have hc:=om hc;refine hn (_,_) ⟨vcT,?_,?_⟩ vcT
   ·exact (zcx ⟨x0.c0, v.2⟩ v.1 (x2 - x1) x1 hc).len.trans hl
   have:=zjt ⟨x0.c0,v.2⟩ v.1 (x2 - x1) x1 vcT hv;dsimp only;rw[show v.1 - 1+1=v.1 by omega];exact this
  |false =>
   have hc:=oB hc;have e:v.1=-1:=vdh;rw[e] at hv;refine za8 (fun (w:Int×List Int)=>(-1≤w.1∧w.1<x2 - x1)∧w.2.length=x0.l.length∧Heap (zag x0.c0) x1 0 (w.1+1) w.2∧∀i j,x1≤i→i<j→j<x2→x1+w.1<j→zag x0.c0 (gi w.2 j) (gi w.2 i)=false) (fun w=>(w.1+1).toNat) (fun l=>Srt (zag x0.c0) x1 x2 l) (fun w next2 hw hn2=>?_) _ _ vcT ⟨vcT,hl,?_,fun i j k1 k2 k3 k4=>absurd k4 vcT⟩
   ·obtain ⟨hb, hl, hw, hd⟩ := hw;cases hc : decide (0 ≤ w.1) with
    |false =>have hc:=oB hc;exact fun i j k1 k2 k3=>hd i j k1 k2 k3 vdh
    |true =>
     have hc:=om hc;have hg:=fun (k:Int) (hk:0≤k)=>zmt w.2 x1 (x1+w.1) k vdh vdh hk;have hh:Heap (zag x0.c0) x1 (0+1) w.1 (swp w.2 x1 (x1+w.1)):=fun r c k1 k2 k3=>(by rw[hg (x1+r) vdh,hg (x1+c) vdh,if_neg vdh,if_neg vdh,if_neg vdh,if_neg vdh];exact hw r c vdh k2 vdh);have hs:=zcx ⟨x0.c0,swp w.2 x1 (x1+w.1)⟩ 0 w.1 x1 vdh;have hln:(swp w.2 x1 (x1+w.1)).length=x0.l.length:=(by rw[za4];exact hl);have ho:=fun (k:Int) (hk:0≤k) (h2:k<x1+0∨x1+w.1≤k)=>hs.out vdh vcT hk h2;refine hn2 (_,_) ⟨vcT,hs.len.trans hln,?_,fun i j k1 k2 k3 k4=>?_⟩ vcT
     ·have := zjt ⟨x0.c0, swp w.2 x1 (x1 + w.1)⟩ 0 w.1 x1 vcQ hh;dsimp only;rw [show w.1 - 1 + 1 = w.1 by omega];exact this
     have k4 : x1 + (w.1 - 1) < j := k4;show zag x0.c0 (gi (zb3 ⟨x0.c0, swp w.2 x1 (x1 + w.1)⟩ 0 w.1 x1) j) (gi (zb3 ⟨x0.c0, swp w.2 x1 (x1 + w.1)⟩ 0 w.1 x1) i) = false;rw[ho j vdh vdh];have key : ∀k, x1 ≤ k → k < j → zag x0.c0 (gi (swp w.2 x1 (x1 + w.1)) j) (gi (swp w.2 x1 (x1 + w.1)) k) = false := fun k q1 q2 => by
      rw[hg j vdh,hg k vdh];by_cases ej:j=x1+w.1
      ·rw [if_pos ej, if_neg vdh];split
       ·have := hw.top hR w.1.toNat vdh;rwa [show x1 + ((w.1.toNat : Nat) : Int) = x1 + w.1 by omega] at this
       have:=hw.top hR (k - x1).toNat vdh;rwa [show x1+(((k - x1).toNat:Nat):Int)=k by omega] at this
      rw[if_neg ej,if_neg vdh];split
      ·exact hd x1 j vdh vdh k3 vdh
      split
      ·exact hd (x1 + w.1) j vdh vdh k3 vdh
      exact hd k j q1 q2 k3 vdh
     by_cases ei:x1+w.1≤i
     ·rw [ho i vdh vdh]; exact key i k1 k2
     exact hs.all vdh vcT (P:=fun y=>zag x0.c0 (gi (swp w.2 x1 (x1+w.1)) j) y=false) (fun k q1 q2=>key k vdh vdh) i vdh vdh
   dsimp only;have e0:(-1:Int)+1=0:=vdh;rw[e0] at hv;rw[show x2 - x1 - 1+1=x2 - x1 by omega];exact hv
 dsimp only at k1 k2 k3 ⊢;by_cases e:0≤x2 - x1 - 1
 ·have : (x2 - x1 - 1).tdiv 2 = (x2 - x1 - 1) / 2 := Int.tdiv_eq_ediv_of_nonneg e;omega
 omega
theorem zth(x0 : ye)(x1 x2 : Int)(h : x1 < x2 ∧ x2 - x1 < 50)(hr : (zb5 x0 x1 x2).1 = true) : Srt (zag x0.c0) x1 x2 x0.l := by
 have hR:=zhr x0.c0;revert hr;unfold zb5;refine za3 (fun i (v:Int×List Int)=>v.2=x0.l∧x1+1≤v.1∧v.1≤x2∧∀k,x1<k→k<v.1→zag x0.c0 (gi x0.l k) (gi x0.l (k - 1))=false) (fun (r:Bool×List Int)=>r.1=true→Srt (zag x0.c0) x1 x2 x0.l) ⟨rfl,vcT,vcT,fun k k1 k2=>absurd k1 (by dsimp only at k2;omega)⟩ (fun i v next hi hv hn=>?_) (fun s hs hr=>by cases hr);obtain⟨he,hb1,hb2,hv⟩:=hv;refine za8 (fun (w:Int)=>x1+1≤w∧w≤x2∧∀k,x1<k→k<w→zag x0.c0 (gi x0.l k) (gi x0.l (k - 1))=false) (fun (w:Int)=>(x2 - w).toNat) (fun (r:Bool×List Int)=>r.1=true→Srt (zag x0.c0) x1 x2 x0.l) (fun w next2 hw hn2=>?_) _ _ vdh ⟨hb1,hb2,hv⟩;cases hd:decide (w<x2)&&!(zal w (w - 1) x0.c0 v.2) with
 |true =>
  simp only[oc,ob] at hd;refine hn2 _ ⟨vdh,vdh,fun k k1 k2=>?_⟩ vdh;by_cases e:k=w
  ·subst e;rw [he] at hd;exact (by simpa using hd.2 : zal k (k - 1) x0.c0 x0.l = false)
  exact hw.2.2 k k1 vdh
 |false =>
  cases hx:decide (w=x2) with
  |true =>have hx:=om hx;subst hx;exact fun _=>Srt.adj hR hw.2.2
  |false =>rw[oM h.2];exact fun hq=>by cases hq
theorem zyl : ∀(m : Nat) (x0 : ye) (x1 x2 x3 : Int), 0 ≤ x1 ∧ x1 ≤ x2 ∧ x2 - x1 < 50 ∧ x2 ≤ 255 → x2 ≤ x0.l.length → (x2 - x1).toNat < m → (0 < x1 → ∀k, x1 ≤ k → k < x2 → zag x0.c0 (gi x0.l k) (gi x0.l (x1 - 1)) = false) → Srt (zag x0.c0) x1 x2 (zey m x0 x1 x2 x3) := by
 intro m;induction m with
 |zero =>intro x0 x1 x2 x3 h hl hm;exact absurd hm (oQ _)
 |succ m ih =>
  intro x0 x1 x2 x3 h hl hm hp0;have hR:=zhr x0.c0;rw[zey];refine za8 (fun (v:Int×Int×Int×Bool×Bool×List Int)=>(x1≤v.1∧v.1≤v.2.1∧v.2.1≤x2)∧v.2.2.2.2.2.length=x0.l.length∧Done (zag x0.c0) x1 x2 v.1 v.2.1 v.2.2.2.2.2) (fun v=>(v.2.1 - v.1).toNat) (fun (l:List Int)=>Srt (zag x0.c0) x1 x2 l) (fun v next hv hn=>?_) _ _ vcT ⟨vcT,rfl,fun i j k1 k2 k3 k4=>absurd k4 vcT,hp0⟩;obtain⟨hb,hlen,hs⟩:=hv;cases hc:decide (v.2.1 - v.1≤12) with
  |true =>exact(hs.sw (zc4 ⟨x0.c0,v.2.2.2.2.2⟩ v.1 v.2.1 vdh) vdh).fin (zt6 ⟨x0.c0,v.2.2.2.2.2⟩ v.1 v.2.1 vcT)
  |false =>
   have hc:=oB hc;cases decide (v.2.2.1=0) with
   |true =>exact(hs.sw (zch ⟨x0.c0,v.2.2.2.2.2⟩ v.1 v.2.1 vdh) vdh).fin (zso ⟨x0.c0,v.2.2.2.2.2⟩ v.1 v.2.1 vcT)
   |false =>
    rw[oD,oD];refine jn_to (fun (j:Int×List Int)=>j.2.length=x0.l.length∧Done (zag x0.c0) x1 x2 v.1 v.2.1 j.2) (fun (l:List Int)=>Srt (zag x0.c0) x1 x2 l) (fun K hK=>?_) (fun j3 h3=>?_)
    ·cases !v.2.2.2.1 with
     |true =>have hw:=zci ⟨x0.c0,v.2.2.2.2.2⟩ v.1 v.2.1 vdh;exact hK (_,_) ⟨hw.len.trans hlen,hs.sw hw vdh⟩
     |false =>exact hK (_,_) ⟨hlen,hs⟩
    refine jn_to (fun (j:Int×Int)=>v.1≤j.1∧j.1<v.2.1) (fun (l:List Int)=>Srt (zag x0.c0) x1 x2 l) (fun K hK=>hK (_,_) (zhe ⟨x0.c0,j3.2⟩ v.1 v.2.1 vdh)) (fun j5 h5=>?_);refine jn_to (fun (j:Int×Int×List Int)=>(v.1≤j.1∧j.1<v.2.1)∧j.2.2.length=x0.l.length∧Done (zag x0.c0) x1 x2 v.1 v.2.1 j.2.2) (fun (l:List Int)=>Srt (zag x0.c0) x1 x2 l) (fun K hK=>?_) (fun j6 h6=>?_)
    ·cases decide (j5.2 = 2) with
     |true =>have hw:=zbp ⟨x0.c0,j3.2⟩ v.1 v.2.1 vdh;exact hK (_,_,_) ⟨vcT,hw.len.trans h3.1,h3.2.sw hw vdh⟩
     |false =>exact hK (_,_,_) ⟨h5,h3⟩
    obtain⟨h6,h6s⟩:=h6;refine jn_to (fun (j:List Int)=>j.length=x0.l.length∧Done (zag x0.c0) x1 x2 v.1 v.2.1 j) (fun (l:List Int)=>Srt (zag x0.c0) x1 x2 l) (fun K hK=>?_) (fun j8 h8=>?_)
    ·cases (v.2.2.2.1 && v.2.2.2.2.1) && (decide (j6.2.1 = 1)) with
     |false =>exact hK _ h6s
     |true =>
      rw[oE];have hkp:=zku ⟨x0.c0,j6.2.2⟩ v.1 v.2.1 vdh;cases hj:(zb5 ⟨x0.c0,j6.2.2⟩ v.1 v.2.1).1 with
      |true =>show Srt (zag x0.c0) x1 x2 (bif true then(zb5 ⟨x0.c0,j6.2.2⟩ v.1 v.2.1).2 else K (zb5 ⟨x0.c0,j6.2.2⟩ v.1 v.2.1).2);rw[oE,hkp];exact h6s.2.fin (zth ⟨x0.c0,j6.2.2⟩ v.1 v.2.1 vdh hj)
      |false =>show Srt (zag x0.c0) x1 x2 (bif false then(zb5 ⟨x0.c0,j6.2.2⟩ v.1 v.2.1).2 else K (zb5 ⟨x0.c0,j6.2.2⟩ v.1 v.2.1).2);rw[oD,hkp];exact hK _ h6s
    obtain⟨hl8,h8⟩:=h8;cases hq:(decide (0<v.1))&&(!(zal (v.1 - 1) j6.1 x0.c0 j8)) with
    |true =>simp only[oc,ob] at hq;have hp:=zjd ⟨x0.c0,j8⟩ v.1 v.2.1 j6.1 vdh vcT;have hpb:=hp.b;have hc2:zag x0.c0 (gi j8 (v.1 - 1)) (gi j8 j6.1)=false:=(by simpa using hq.2:zal (v.1 - 1) j6.1 x0.c0 j8=false);exact hn (_,_,_,_,_,_) ⟨vcT,hp.s.len.trans hl8,h8.eqs hR vdh hq.1 hc2 hp.s hp.pv hp.lo hp.hi⟩ vcT
    |false =>
     have hp:=zni ⟨x0.c0,j8⟩ v.1 v.2.1 j6.1 vdh vcT;have hpb:=hp.b;have hd11:=h8.sw hp.s vdh;have hl11:=hp.s.len.trans hl8;rw[oD];refine jn_to (fun (j:Int×Bool×List Int)=>(v.1≤j.1∧j.1<v.2.1)∧j.2.2.length=x0.l.length∧Done (zag x0.c0) x1 x2 v.1 v.2.1 j.2.2∧(∀k,v.1≤k→k<j.1→zag x0.c0 (gi j.2.2 k) (gi j.2.2 j.1)=true)∧∀k,j.1<k→k<v.2.1→zag x0.c0 (gi j.2.2 k) (gi j.2.2 j.1)=false) (fun (l:List Int)=>Srt (zag x0.c0) x1 x2 l) (fun K hK=>hK (_,_,_) ⟨hpb,hl11,hd11,fun k k1 k2=>by dsimp only at k2 ⊢;rw[hp.pv];exact hp.lo k k1 k2,fun k k1 k2=>by dsimp only at k1 ⊢;rw[hp.pv];exact hp.hi k k1 k2⟩) (fun j11 h11=>?_);obtain⟨h11,hl11,hd11,hlo,hhi⟩:=h11;cases decide ((j11.1 - v.1)<(v.2.1 - j11.1)) with
     |true =>have hw:=zds m ⟨x0.c0,j11.2.2⟩ v.1 j11.1 j3.1 vdh vcT vdh;have ht:=ih ⟨x0.c0,j11.2.2⟩ v.1 j11.1 j3.1 vdh vcT vdh (fun h0 k k1 k2=>hd11.pb vdh h0 k k1 vdh);exact hn (_,_,_,_,_,_) ⟨vcT,hw.len.trans hl11,hd11.left hR vdh rfl hlo hhi hw ht⟩ vcT
     |false =>
      have hw:=zds m ⟨x0.c0,j11.2.2⟩ (j11.1+1) v.2.1 j3.1 vdh vcT vdh
      have ht := ih ⟨x0.c0, j11.2.2⟩ (j11.1 + 1) v.2.1 j3.1 vdh vcQ vdh (fun h0 k k1 k2 => by
        rw[show j11.1+1 - 1=j11.1 by omega]
        exact hhi k vdh k2)
      exact hn (_,_,_,_,_,_) ⟨(show x1≤v.1∧v.1≤j11.1∧j11.1≤x2 by omega),hw.len.trans hl11,hd11.right (mid:=j11.1) (a:=v.1) (b:=v.2.1) hR vdh rfl hlo hhi hw ht⟩ vcT
theorem zu7(x0:ye)(x3:Int)(h:x0.l.length<50):Srt (zag x0.c0) 0 x0.l.length (pdqE x0 0 x0.l.length x3)∧(pdqE x0 0 x0.l.length x3).Perm x0.l:=by unfold pdqE;exact⟨zyl 256 x0 0 x0.l.length x3 vdh vdh vdh (fun h0=>absurd h0 vdh),(zds 256 x0 0 x0.l.length x3 vdh vdh vdh).perm vdh vdh⟩
noncomputable def kvoE(d:Nat)(ids:List Nat)(l:List Int):Cl:=(.resM d ids [(900000,.arr 1 l.length (rowOf (cInt .i64) l)),(0,.var [.own 900000])] (.agg [.k Tryz.prog.globals.size 54,.vp 0 0,.int .u64 151]),k0 (P:=FnX Tryz.prog 114 [.ifc 54 (.own 900000)] [.arr 1 l.length (rowOf (cInt .i64) l)] (.agg [.k Tryz.prog.globals.size 54,.vp 0 0,.int .u64 151]) [(900000,.arr 1 l.length (rowOf (cInt .i64) l)),(0,.var [.own 900000])]) (FnX.valueOf (t:=54) (e:=3) (ti:=Tryz.t54) Tryz.func114 zaa zaa zaa (by rfl) zaa zaa))
noncomputable def klnE(d:Nat)(ids:List Nat)(l:List Int):Cl:=(.resM d ids (enumB [.arr 1 l.length (rowOf (cInt .i64) l),.var [.own 900000]] 900000) (.int .i64 l.length),k0 (P:=FnX Tryz.prog 116 [.agg [.k Tryz.prog.globals.size 54,.vp 900001 0,.int .u64 151]] [.arr 1 l.length (rowOf (cInt .i64) l),.var [.own 900000]] (.int .i64 l.length) (enumB [.arr 1 l.length (rowOf (cInt .i64) l),.var [.own 900000]] 900000)) (FnX.valLen (t:=54) (e:=3) (ti:=Tryz.t54) Tryz.func116 zaa zaa zaa (by rfl) zaa zaa zaa zaa))
noncomputable def kspE(d:Nat)(ids:List Nat)(l:List Int):Cl:=(.resM d ids (enumB [.arr 1 l.length (rowOf (cInt .i64) l)] 900000) (.clo 126 [.own 900000,.k Tryz.prog.globals.size 3]),k1 (P:=FnX Tryz.prog 115 [.ifc 54 (.own 900000)] [.arr 1 l.length (rowOf (cInt .i64) l)] (.clo 126 [.own 900000,.k Tryz.prog.globals.size 3]) (enumB [.arr 1 l.length (rowOf (cInt .i64) l)] 900000)) fun hn=>FnX.swapper (t:=54) (e:=3) (ti:=Tryz.t54) (ie:=Tryz.t3) (ke:=2) hn Tryz.func115 zaa zaa zaa (by rfl) zaa zaa zaa (fun w=>by kernel_rfl) (fun m=>⟨rfl,by decide⟩) zaa)

def C106E(x0:ye)(x1:Unit)(R:(List Int)):LV×List (Nat×BC):=(.tup [],[(900000,.arr 1 R.length (rowOf (cInt .i64) R)),(900001,.var [.ro false 6 x0.c0.people.length (rowOf (zah false) x0.c0.people),.ro false 4 x0.c0.unions.length (rowOf (zas false) x0.c0.unions)]),(900002,.var [.own 900000])])
def zjs(x0:ye)(x1:Unit):(List Int):=pdqE x0 0 (x0.l.length:Int) (zcr (x0.l.length:Int))
noncomputable def A106E(x0:ye)(x1:Unit):Ann:=.reg 4 [] [(1,kvoE 9 [900000] x0.l),(1001,kspE 11 [900000] x0.l),(2001,klnE 13 [900000,1009] x0.l),(3002,k117 (x0.l.length:Int))] [1,5,6,7] [900000,900001,900002] [] [pf (inR .u64 (x0.l.length:Int))] [] [4,8,12,0,16] (.reg 1 [] [(5,k118E 22 [900000,900001,900002] x0 0 (x0.l.length:Int) (zcr (x0.l.length:Int)))] [] [900000,900001,900002] [] [] [] [0] (rt [(900000,some 900000),(900001,some 900001),(900002,some 900002)] (C106E x0 x1 (pdqE x0 0 (x0.l.length:Int) (zcr (x0.l.length:Int))))))
theorem zoj(x0:ye)(x1:Unit)(hx:x0.l.length<50)(hok:OkE x0)(h2:2≤x0.l.length):FnMT Tryz.prog 106 [.ifc 54 (.own 900000),.clo 107 [.vp 900001 0,.vp 900002 0]] [.arr 1 x0.l.length (rowOf (cInt .i64) x0.l),.var [.ro false 6 x0.c0.people.length (rowOf (zah false) x0.c0.people),.ro false 4 x0.c0.unions.length (rowOf (zas false) x0.c0.unions)],.var [.own 900000]] (C106E x0 x1 (zjs x0 x1)):=by have aux:∀R,zjs x0 x1=R→slim (C106E x0 x1 R) (A106E x0 x1) []:=(by intro R hR;refine rg ⟨vcx,trivial,vdg,trivial,vc6,trivial⟩ ?_;refine rg ⟨⟨vc6,vdg,vc6,by(have h9:=zpj x0.l.length vdh;((try clear hR);intros;(try simp only[w1,w2,w3,w4,w5,w6,za4,inR,IntKind.bits] at *));omega)⟩,trivial⟩ ?_;exact oe (C106E x0 x1) hR);exact FnM.go 23 Tryz.func106 zaa zaa (A106E x0 x1) zaa (aux _ rfl)
def k106E(d:Nat)(ids:List Nat)(x0:ye)(x1:Unit):Cl:=(hresM d ids (C106E x0 x1 (zjs x0 x1)),k3 (zoj x0 x1))
structure yf where
  c0:yc
  l:List Int
  deriving Inhabited

def C133Z(x0:yf)(x1:Int)(x2:Int)(R:(List Int)):LV×List (Nat×BC):=(.tup [],[(900000,.arr 1 R.length (rowOf (cInt .i64) R)),(900001,.var [.ro false 6 x0.c0.people.length (rowOf (zah false) x0.c0.people),.ro false 4 x0.c0.unions.length (rowOf (zas false) x0.c0.unions)]),(900002,.var [.own 900000])])
def zg2(x0:yf)(x1:Int)(x2:Int):(List Int):=loopW (fun (v1:Int) next=>x0.l) (0+1) (x1+1)
def z1y(v1:Int):Dl:=⟨[(6,.int .i64 v1)],[]⟩
def z6p(x0:yf)(x1:Int)(x2:Int)(v1:Int):Ann:=r0 1 [1,2,3,6,12] [3,900000,900001,900002] (cn (decide (v1<x2)) (.next 99 [] ⟨[],[]⟩) (rt [(900000,some 900000),(900001,some 900001),(900002,some 900002)] (C133Z x0 x1 x2 x0.l)))
def A133Z(x0:yf)(x1:Int)(x2:Int):Ann:=r1 2 [1,2,3,6] [3,900000,900001,900002] [pf (inR .i64 (x1+1))] [0] (.loop Int (z1y) [] [] [] (z1y (x1+1)) (z6p x0 x1 x2))
theorem zf5(x0:yf)(x1:Int)(x2:Int)(hx:x0.l.length≤1)(hab:x1=0∧x2=x0.l.length):FnMT Tryz.prog 133 [.agg [.clo 107 [.vp 900001 0,.vp 900002 0],.fv],.int .i64 x1,.int .i64 x2] [.arr 1 x0.l.length (rowOf (cInt .i64) x0.l),.var [.ro false 6 x0.c0.people.length (rowOf (zah false) x0.c0.people),.ro false 4 x0.c0.unions.length (rowOf (zas false) x0.c0.unions)],.var [.own 900000]] (C133Z x0 x1 x2 (zg2 x0 x1 x2)):=by have aux:∀R,zg2 x0 x1 x2=R→slim (C133Z x0 x1 x2 R) (A133Z x0 x1 x2) []:=(by intro R hR;refine rg ⟨vcx,trivial⟩ ?_;refine lW (fun v=>x1+1≤v) (fun v=>0) vc6 (oH _) rfl (fun m1 v1 F1 hI1 hM1 hR hK1=>?_) hR;refine rT ?_;refine⟨fun hq=>absurd hq (by simp only[ob,oa,Bool.not_eq_true,Bool.not_eq_false];omega),fun hc1=>?_⟩;exact oe (C133Z x0 x1 x2) hR);exact FnM.go 35 Tryz.func133 zaa zaa (A133Z x0 x1 x2) zaa (aux _ rfl)
def k133Z(d:Nat)(ids:List Nat)(x0:yf)(x1:Int)(x2:Int):Cl:=(hresM d ids (C133Z x0 x1 x2 (zg2 x0 x1 x2)),k2 (zf5 x0 x1 x2))
def C118Z(x0:yf)(x1:Int)(x2:Int)(x3:Int)(R:(List Int)):LV×List (Nat×BC):=(.tup [],[(900000,.arr 1 R.length (rowOf (cInt .i64) R)),(900001,.var [.ro false 6 x0.c0.people.length (rowOf (zah false) x0.c0.people),.ro false 4 x0.c0.unions.length (rowOf (zas false) x0.c0.unions)]),(900002,.var [.own 900000])])
def pdqZ(x0:yf)(x1:Int)(x2:Int)(x3:Int):(List Int):=loopW (fun (v1:Int×Int×Int×Bool×Bool) next=>zg2 x0 v1.1 v1.2.1) (0+1) (x1,x2,x3,true,true)
def z14(v1:Int×Int×Int×Bool×Bool):Dl:=⟨[(1,.int .i64 v1.1),(2,.int .i64 v1.2.1),(3,.int .i64 v1.2.2.1),(8,.bool v1.2.2.2.1),(9,.bool v1.2.2.2.2)],[]⟩
def z6s(x0:yf)(x1:Int)(x2:Int)(x3:Int)(v1:Int×Int×Int×Bool×Bool):Ann:=r1 1 [1,2,3,4,8,9,10] [4,900000,900001,900002] [pf (inR .i64 (v1.2.1 - v1.1))] [0] (r0 1 [1,2,3,4,8,9,10,23] [4,900000,900001,900002] (cn (decide ((v1.2.1 - v1.1)≤12)) (.reg 1 [] [(3,k133Z 27 [900000,900001,900002] x0 v1.1 v1.2.1)] [1,2,3,4,8,9,10] [4,900000,900001,900002] [] [] [] [0] (rt [(900000,some 900000),(900001,some 900001),(900002,some 900002)] (C118Z x0 x1 x2 x3 (zg2 x0 v1.1 v1.2.1)))) (.next 99 [] ⟨[],[]⟩)))
def A118Z(x0:yf)(x1:Int)(x2:Int)(x3:Int):Ann:=r0 3 [1,2,3,4,8,9] [4,900000,900001,900002] (.loop (Int×Int×Int×Bool×Bool) (z14) [] [] [] (z14 (x1,x2,x3,true,true)) (z6s x0 x1 x2 x3))
theorem zie(x0:yf)(x1:Int)(x2:Int)(x3:Int)(hx:x0.l.length≤1)(hab:x1=0∧x2=x0.l.length):FnMT Tryz.prog 118 [.agg [.clo 107 [.vp 900001 0,.vp 900002 0],.fv],.int .i64 x1,.int .i64 x2,.int .i64 x3] [.arr 1 x0.l.length (rowOf (cInt .i64) x0.l),.var [.ro false 6 x0.c0.people.length (rowOf (zah false) x0.c0.people),.ro false 4 x0.c0.unions.length (rowOf (zas false) x0.c0.unions)],.var [.own 900000]] (C118Z x0 x1 x2 x3 (pdqZ x0 x1 x2 x3)):=by have aux:∀R,pdqZ x0 x1 x2 x3=R→slim (C118Z x0 x1 x2 x3 R) (A118Z x0 x1 x2 x3) []:=(by intro R hR;refine rT ?_;refine lW (fun v=>v.1=x1∧v.2.1=x2) (fun v=>0) vdg (oH _) rfl (fun m1 v1 F1 hI1 hM1 hR hK1=>?_) hR;refine rg ⟨vcx,trivial⟩ ?_;refine rT ?_;refine⟨fun hc1=>?_,fun hq=>absurd hq (by simp only[ob,oa,Bool.not_eq_true,Bool.not_eq_false];omega)⟩;refine rg ⟨⟨vdg,vc6⟩,trivial⟩ ?_;exact oe (C118Z x0 x1 x2 x3) hR);exact FnM.go 130 Tryz.func118 zaa zaa (A118Z x0 x1 x2 x3) zaa (aux _ rfl)
def k118Z(d:Nat)(ids:List Nat)(x0:yf)(x1:Int)(x2:Int)(x3:Int):Cl:=(hresM d ids (C118Z x0 x1 x2 x3 (pdqZ x0 x1 x2 x3)),k2 (zie x0 x1 x2 x3))
noncomputable def kvoZ(d:Nat)(ids:List Nat)(l:List Int):Cl:=(.resM d ids [(900000,.arr 1 l.length (rowOf (cInt .i64) l)),(0,.var [.own 900000])] (.agg [.k Tryz.prog.globals.size 54,.vp 0 0,.int .u64 151]),k0 (P:=FnX Tryz.prog 114 [.ifc 54 (.own 900000)] [.arr 1 l.length (rowOf (cInt .i64) l)] (.agg [.k Tryz.prog.globals.size 54,.vp 0 0,.int .u64 151]) [(900000,.arr 1 l.length (rowOf (cInt .i64) l)),(0,.var [.own 900000])]) (FnX.valueOf (t:=54) (e:=3) (ti:=Tryz.t54) Tryz.func114 zaa zaa zaa (by rfl) zaa zaa))
noncomputable def klnZ(d:Nat)(ids:List Nat)(l:List Int):Cl:=(.resM d ids (enumB [.arr 1 l.length (rowOf (cInt .i64) l),.var [.own 900000]] 900000) (.int .i64 l.length),k0 (P:=FnX Tryz.prog 116 [.agg [.k Tryz.prog.globals.size 54,.vp 900001 0,.int .u64 151]] [.arr 1 l.length (rowOf (cInt .i64) l),.var [.own 900000]] (.int .i64 l.length) (enumB [.arr 1 l.length (rowOf (cInt .i64) l),.var [.own 900000]] 900000)) (FnX.valLen (t:=54) (e:=3) (ti:=Tryz.t54) Tryz.func116 zaa zaa zaa (by rfl) zaa zaa zaa zaa))
noncomputable def kspZ(d:Nat)(ids:List Nat)(l:List Int):Cl:=(.resM d ids (enumB [.arr 1 l.length (rowOf (cInt .i64) l)] 900000) .fv,k1 (P:=FnX Tryz.prog 115 [.ifc 54 (.own 900000)] [.arr 1 l.length (rowOf (cInt .i64) l)] .fv (enumB [.arr 1 l.length (rowOf (cInt .i64) l)] 900000)) fun hn=>FnX.swapper0 (t:=54) (e:=3) (ti:=Tryz.t54) (ie:=Tryz.t3) (ke:=2) (g0:=122) (g1:=123) hn Tryz.func115 zaa zaa zaa (by rfl) zaa zaa zaa (fun w=>by kernel_rfl) zaa zaa)

def C106Z(x0:yf)(x1:Unit)(R:(List Int)):LV×List (Nat×BC):=(.tup [],[(900000,.arr 1 R.length (rowOf (cInt .i64) R)),(900001,.var [.ro false 6 x0.c0.people.length (rowOf (zah false) x0.c0.people),.ro false 4 x0.c0.unions.length (rowOf (zas false) x0.c0.unions)]),(900002,.var [.own 900000])])
def zim(x0:yf)(x1:Unit):(List Int):=pdqZ x0 0 (x0.l.length:Int) (zcr (x0.l.length:Int))
noncomputable def A106Z(x0:yf)(x1:Unit):Ann:=.reg 4 [] [(1,kvoZ 9 [900000] x0.l),(1001,kspZ 11 [900000] x0.l),(2001,klnZ 13 [900000,1009] x0.l),(3002,k117 (x0.l.length:Int))] [1,5,6,7] [900000,900001,900002] [] [pf (inR .u64 (x0.l.length:Int))] [] [4,8,12,0,16] (.reg 1 [] [(5,k118Z 22 [900000,900001,900002] x0 0 (x0.l.length:Int) (zcr (x0.l.length:Int)))] [] [900000,900001,900002] [] [] [] [0] (rt [(900000,some 900000),(900001,some 900001),(900002,some 900002)] (C106Z x0 x1 (pdqZ x0 0 (x0.l.length:Int) (zcr (x0.l.length:Int))))))
theorem zoi(x0:yf)(x1:Unit)(hx:x0.l.length≤1):FnMT Tryz.prog 106 [.ifc 54 (.own 900000),.clo 107 [.vp 900001 0,.vp 900002 0]] [.arr 1 x0.l.length (rowOf (cInt .i64) x0.l),.var [.ro false 6 x0.c0.people.length (rowOf (zah false) x0.c0.people),.ro false 4 x0.c0.unions.length (rowOf (zas false) x0.c0.unions)],.var [.own 900000]] (C106Z x0 x1 (zim x0 x1)):=by have aux:∀R,zim x0 x1=R→slim (C106Z x0 x1 R) (A106Z x0 x1) []:=(by intro R hR;refine rg ⟨vcx,trivial,vdg,trivial,vc6,trivial⟩ ?_;refine rg ⟨⟨vdg,vdg⟩,trivial⟩ ?_;exact oe (C106Z x0 x1) hR);exact FnM.go 23 Tryz.func106 zaa zaa (A106Z x0 x1) zaa (aux _ rfl)
def k106Z(d:Nat)(ids:List Nat)(x0:yf)(x1:Unit):Cl:=(hresM d ids (C106Z x0 x1 (zim x0 x1)),k1 (zoi x0 x1))
def C47(R:Bool):LV×List (Nat×BC):=(.bool R,[])
def zbu(x0:yc)(x1:Int)(x2:Int):Bool:=(decide (((x0.people.getD x2.toNat default).father)=x1))||(decide (((x0.people.getD x2.toNat default).mother)=x1))
def A47(x0:yc)(x1:Int)(x2:Int):Ann:=let q1:=((x0.people.getD x2.toNat default).father)=x1;let q2:=(0≤(x2:Int)∧(x2:Int)<((x0.people.length:Nat):Int));.reg 2 [] [] [6] [] [!(decide q1),decide q1] [pf q2,gt (!(decide q1)) (pf q2)] [] [0,1,1,1,4,1,1,1,1,6] (rt [] (C47 ((decide q1)||(decide (((x0.people.getD x2.toNat default).mother)=x1)))))
theorem zm7(x0:yc)(x1:Int)(x2:Int)(h2:0≤x2∧x2<x0.people.length):FnT Tryz.prog 47 [.agg (zaw false x0),.int .i64 x1,.int .i64 x2] (C47 (zbu x0 x1 x2)):=by have aux:∀R,zbu x0 x1 x2=R→slim (C47 R) (A47 x0 x1 x2) []:=(by intro R hR;refine rg ⟨vdg,vc6,trivial⟩ ?_;exact oe C47 hR);exact Fn.go 25 Tryz.func47 zaa zaa (by simp[C47,Frs,FrsL]) (A47 x0 x1 x2) zaa (aux _ rfl)
def k47(x0:yc)(x1:Int)(x2:Int):Cl:=(hres (C47 (zbu x0 x1 x2)),k1 (zm7 x0 x1 x2))
def C85(R:Bool):LV×List (Nat×BC):=(.bool R,[])
def kidP(x0:Int)(x1:yc)(x2:Int):Bool:=zbu x1 x2 x0
def A85(x0:Int)(x1:yc)(x2:Int):Ann:=.reg 2 [] [(1003,k47 x1 x2 x0)] [4] [] [] [] [] [0] (rt [] (C85 (zbu x1 x2 x0)))
theorem zjq(x0:Int)(x1:yc)(x2:Int)(h0:0≤x0∧x0<x1.people.length):FnT Tryz.prog 85 [.int .i64 x0,.ep [.ro false 6 x1.people.length (rowOf (zah false) x1.people),.ro false 4 x1.unions.length (rowOf (zas false) x1.unions)] 0,.ep [.int .i64 x2] 0] (C85 (kidP x0 x1 x2)):=by have aux:∀R,kidP x0 x1 x2=R→slim (C85 R) (A85 x0 x1 x2) []:=(by intro R hR;refine rg ⟨vdg,trivial⟩ ?_;exact oe C85 hR);exact Fn.go 9 Tryz.func85 zaa zaa (by simp[C85,Frs,FrsL]) (A85 x0 x1 x2) zaa (aux _ rfl)
def k85(x0:Int)(x1:yc)(x2:Int):Cl:=(hres (C85 (kidP x0 x1 x2)),k1 (zjq x0 x1 x2))
def C84(R:(List Int)):LV×List (Nat×BC):=(.own 0,[(0,.arr 1 R.length (rowOf (cInt .i64) R))])
def zd1(x0:yc)(x1:yc×Int):(List Int):=loopN (fun i1 (v1:(List Int)) next=>bif(kidP ((i1:Nat):Int) x1.1 x1.2) then(next (v1++[((i1:Nat):Int)])) else(next v1)) (fun (v1:(List Int))=>bif(decide (2≤v1.length)) then(zjs (ye.mk x0 v1) ()) else(zim (yf.mk x0 v1) ())) x0.people.length 0 ([]:List Int)
def D84b1(i1:Nat)(v1:(List Int)):Dl:=⟨[(10,.int .i64 ((i1:Nat):Int))],[(30500,.arr 1 v1.length (rowOf (cInt .i64) v1)),(5,.var [.own 30500])]⟩
def A84b1(x0:yc)(x1:yc×Int)(i1:Nat)(v1:(List Int)):Ann:=let q1:=((i1:Nat):Int);r0 1 [1,2,4,5,9,10,11] [2,5,30500] (cn (decide (q1<((x0.people.length:Nat):Int))) (.reg 2 [] [(1002,k85 q1 x1.1 x1.2)] [1,2,4,5,6,9,10,15] [2,5,30500] [] [] [] [0] (cn (kidP q1 x1.1 x1.2) (.reg 1 [] [(2,bsC 18 (cInt .i64) ([q1]:List Int)),(3,ap1 19 (cInt .i64) 8 v1 q1)] [1,2,4,5,9,10] [2,5,19] [] [] [] [0,4] (r1 1 [1,2,4,5,9,10] [2,5,19] [pf (inR .i64 (q1+1))] [0] (.next 0 [(30500,some 19)] (D84b1 (i1+1) (v1++[q1]))))) (r1 1 [1,2,4,5,9,10] [2,5,30500] [pf (inR .i64 (q1+1))] [0] (.next 0 [(30500,some 30500)] (D84b1 (i1+1) v1))))) (.split (decide (2≤v1.length)) (.reg 2 [] [(3,k106E 24 [30500,2,5] (ye.mk x0 v1) ())] [4] [30500] [] [] [] [0] (rt [(0,some 30500)] (C84 (zjs (ye.mk x0 v1) ())))) (.reg 2 [] [(3,k106Z 24 [30500,2,5] (yf.mk x0 v1) ())] [4] [30500] [] [] [] [0] (rt [(0,some 30500)] (C84 (zim (yf.mk x0 v1) ()))))))
def A84(x0:yc)(x1:yc×Int):Ann:=r0 2 [1,2,4,5] [2,5] (r0 1 [1,2,4,5,9,10] [2,5] (lp (D84b1) [] [] [(30500,none)] (D84b1 0 ([]:List Int)) (A84b1 x0 x1)))
theorem zqb(x0 : yc)(x1 : yc × Int)(hf : x0.people.length ≤ 40)(he : x1.1 = x0) : FnT Tryz.prog 84 [.agg (zaw false x0), .clo 85 [.ep [.ro false 6 x1.1.people.length (rowOf (zah false) x1.1.people), .ro false 4 x1.1.unions.length (rowOf (zas false) x1.1.unions)] 0, .ep [.int .i64 x1.2] 0]] (C84 (zd1 x0 x1)) := by
 have aux : ∀R, zd1 x0 x1 = R → slim (C84 R) (A84 x0 x1) [] := by
  intro R hR;refine rT ?_;refine rT ?_;refine lN (fun i v=>OkL x0 v∧v.length≤i) (by(exact⟨fun c hc=>absurd hc Oa,oz _⟩)) rfl (fun i1 v1 F1 hn1 hI1 hR hK1=>?_) hR;refine rT ?_;refine⟨fun hc1=>?_,fun hc1=>?_⟩
  ·have hii1 : i1 < x0.people.length := vcH;replace hR := zai hR hii1;refine rg ⟨by (rw [he]; omega), trivial⟩ ?_;refine cd (fun hc2 hR => ?_) (fun hc2 hR => ?_) hR
   ·refine rg ⟨trivial, vdh, trivial⟩ ?_;refine rg ⟨vcq, trivial⟩ ?_;exact hK1 (v1 ++ [((i1 : Nat) : Int)]) hii1 (by (exact ⟨fun c hc => (by rcases List.mem_append.1 hc with hc | hc; exact hI1.1 c hc; have := oT.1 hc; omega), by rw [oh]; simp; omega⟩)) hR
   refine rg ⟨vcx,trivial⟩ ?_;exact hK1 v1 hii1 (by(exact⟨hI1.1,vdh⟩)) hR
  obtain rfl:i1=x0.people.length:=by have:=oB hc1;omega
  replace hR:=zaq hR (oR _);refine cd (fun hs3 hR=>?_) (fun hs3 hR=>?_) hR
  ·refine rg ⟨⟨vcq, by (exact hI1.1), by (simp only [ob, oa] at *; omega)⟩, trivial⟩ ?_;exact oe C84 hR
  refine rg ⟨by(simp only[ob,oa] at *;omega),trivial⟩ ?_;exact oe C84 hR
 exact Fn.go 26 Tryz.func84 zaa zaa (by simp[C84,Frs,FrsL,FrsB,rowOf,cInt,cBool,cStr,cSl,zbd,zah,zas,zaw,cDyad,cLaw,zcc]) (A84 x0 x1) zaa (aux _ rfl)
def k84(x0:yc)(x1:yc×Int):Cl:=(hres (C84 (zd1 x0 x1)),k2 (zqb x0 x1))
def C46(R:(List Int)):LV×List (Nat×BC):=(.own 0,[(0,.arr 1 R.length (rowOf (cInt .i64) R))])
def zau(x0:yc)(x1:Int):(List Int):=zd1 x0 (x0,x1)
def A46(x0:yc)(x1:Int):Ann:=.reg 2 [] [(1002,k84 x0 (x0,x1))] [4] [1007] [] [] [] [0] (rt [(0,some 1007)] (C46 (zd1 x0 (x0,x1))))
theorem zk4(x0:yc)(x1:Int)(hf:x0.people.length≤40):FnT Tryz.prog 46 [.agg (zaw false x0),.int .i64 x1] (C46 (zau x0 x1)):=by have aux:∀R,zau x0 x1=R→slim (C46 R) (A46 x0 x1) []:=(by intro R hR;refine rg ⟨⟨vdg,vdg⟩,trivial⟩ ?_;exact oe C46 hR);exact Fn.go 8 Tryz.func46 zaa zaa (by simp[C46,Frs,FrsL,FrsB,rowOf,cInt,cBool,cStr,cSl,zbd,zah,zas,zaw,cDyad,cLaw,zcc]) (A46 x0 x1) zaa (aux _ rfl)
def k46(x0:yc)(x1:Int):Cl:=(hres (C46 (zau x0 x1)),k1 (zk4 x0 x1))
theorem z1e(f:yc)(x y:Int)(h1:zag f x y=false)(h2:zag f y x=false):x=y:=by simp only[zag,Bool.or_eq_false_iff,Bool.and_eq_false_iff,oa] at *;omega
def ByAge(f:yc)(l:List Int):Prop:=l.Pairwise fun x y=>zag f y x=false
theorem zup{f:yc}{l m:List Int}(h1:ByAge f l)(h2:ByAge f m)(hp:l.Perm m):l=m:=hp.eq_of_pairwise (fun a b _ _ k1 k2=>z1e f a b k2 k1) h1 h2
theorem zuz(f : yc)(l : List Int)(h : l.length < 50) : ByAge f (bif decide (2 ≤ l.length) then(zjs (ye.mk f l) ()) else(zim (yf.mk f l) ())) ∧ (bif decide (2 ≤ l.length) then(zjs (ye.mk f l) ()) else(zim (yf.mk f l) ())).Perm l := by
 cases hc:decide (2≤l.length) with
 |true =>have hs:=zu7 ⟨f,l⟩ (zcr l.length) h;have e:((ye.mk f l).l.length:Int)=((pdqE ⟨f,l⟩ 0 (ye.mk f l).l.length (zcr l.length)).length:Int):=(by rw[hs.2.length_eq]);have key:∀(r:List Int) (n:Int),n=(r.length:Int)→Srt (zag f) 0 n r→ByAge f r:=fun r n e h=>(by subst e;exact Srt.pairwise h);exact⟨key _ _ e hs.1,hs.2⟩
 |false =>
  have hc:=oB hc;have e:zim (yf.mk f l) ()=l:=rfl;refine⟨?_,by rw[oD,e]⟩;rw[oD,e];match l,hc with
  |[],_ =>exact List.Pairwise.nil
  |[x],_ =>exact List.pairwise_singleton _ _
  |_ :: _ :: _,hc =>exact absurd vdj hc
def isKid(f:yc)(p:Int)(c:Nat):Bool:=(decide ((f.people.getD c default).father=p))||(decide ((f.people.getD c default).mother=p))
def zd6(f:yc)(p:Int)(n:Nat):List Int:=((List.range n).filter (isKid f p)).map fun (c:Nat)=>(c:Int)
theorem zfv(f:yc)(p:Int)(n:Nat):zd6 f p (n+1)=zd6 f p n++(if isKid f p n then[(n:Int)] else[]):=by unfold zd6;rw[List.range_succ,List.filter_append,List.map_append];congr 1;cases h:isKid f p n<;>simp[h]
theorem zvs{f:yc}{p y:Int}{n:Nat}(h:y∈zd6 f p n):0≤y∧y<n:=by unfold zd6 at h;obtain⟨c,h1,h2⟩:=List.mem_map.1 h;have:=oX.1 (o9.1 h1).1;omega
theorem zvt(f:yc)(p:Int)(n:Nat):(zd6 f p n).length≤n:=by unfold zd6;rw[List.length_map];exact Nat.le_trans (List.length_filter_le _ _) vdj
theorem zsm(f : yc)(l : List Int)(p : Int) : ∃a b, l = a ++ b ∧ ze1 f l p = a ++ p :: b ∧ (∀q ∈ a, zag f p q = false) ∧ (b = [] ∨ ∃c t, b = c :: t ∧ zag f p c = true) := by
 unfold ze1;refine za3 (fun i (v:List Int×Bool)=>i≤l.length∧((v.2=false∧v.1=l.take i∧∀q∈v.1,zag f p q=false)∨(v.2=true∧∃a c t,l.take i=a++c :: t∧v.1=a++p :: c :: t∧(∀q∈a,zag f p q=false)∧zag f p c=true))) (fun (r:List Int)=>∃a b,l=a++b∧r=a++p :: b∧(∀q∈a,zag f p q=false)∧(b=[]∨∃c t,b=c :: t∧zag f p c=true)) ⟨Nat.zero_le _,.inl ⟨rfl,vdj,vdj⟩⟩ (fun i v next hi hv hn=>?_) (fun v hv=>?_)
 ·have e : l.take (i + 1) = l.take i ++ [l.getD i default] := by rw [List.take_add_one, oi, ol hi]; rfl
  obtain⟨w,d⟩:=v;obtain⟨h1,h2⟩:=hv;refine zaj (p:=fun (r:List Int)=>∃a b,l=a++b∧r=a++p :: b∧(∀q∈a,zag f p q=false)∧(b=[]∨∃c t,b=c :: t∧zag f p c=true)) (fun c=>hn _ ⟨hi,?_⟩) (fun c=>hn _ ⟨hi,?_⟩)
  ·simp only [oc, not_t_iff] at c;rcases h2 with ⟨_, h3, h4⟩ | ⟨h3, _⟩
   ·simp only at h3 h4;refine .inr ⟨rfl, w, l.getD i default, [], by rw [e, h3], vdj, h4, c.2⟩
   exact absurd h3 (by simp[c.1])
  rcases h2 with⟨h3,h4,h5⟩ | ⟨h3,a,x,t,h4,h5,h6,h7⟩
  ·simp only at h3 h4 h5;subst h3;simp only [Bool.not_false, Bool.true_and] at c;refine .inl ⟨rfl, by simp only [h4, e], fun q hq => ?_⟩;rcases List.mem_append.1 hq with hq | hq
   ·exact h5 q hq
   rw[oT.1 hq];exact c
  simp only at h3 h5;refine .inr ⟨h3,a,x,t++[l.getD i default],by rw[e,h4];simp,by simp only[h5];simp,h6,h7⟩
 have e:l.take l.length=l:=List.take_length;obtain⟨w,d⟩:=v;rw[e] at hv;rcases hv.2 with⟨h3,h4,h5⟩ | ⟨h3,a,x,t,h4,h5,h6,h7⟩
 ·simp only at h3 h4 h5;subst h3;exact ⟨w, [], by simp [h4], vdj, h5, .inl rfl⟩
 simp only at h3 h5;subst h3;exact⟨a,x :: t,h4,h5,h6,.inr ⟨x,t,rfl,h7⟩⟩
theorem z1k{f : yc}{l : List Int}(p : Int)(h : ByAge f l) : ByAge f (ze1 f l p) ∧ (ze1 f l p).Perm (l ++ [p]) := by
 have hR:=zhr f;obtain⟨a,b,h1,h2,h3,h4⟩:=zsm f l p;rw[h2,h1];unfold ByAge at h ⊢;rw[h1,List.pairwise_append] at h;refine⟨List.pairwise_append.2 ⟨h.1,List.pairwise_cons.2 ⟨fun y hy=>?_,h.2.1⟩,fun x hx y hy=>?_⟩,?_⟩
 ·rcases h4 with h4 | ⟨c, t, h4, h5⟩
  ·rw [h4] at hy; cases hy
  rw[h4] at hy h;have h6:=(List.pairwise_cons.1 h.2.1).1;rcases oS.1 hy with hy | hy
  ·rw [hy]; exact hR.asym _ _ h5
  exact hR.ntr _ _ _ (h6 y hy) (hR.asym _ _ h5)
 ·rcases oS.1 hy with hy | hy
  ·rw [hy]; exact h3 x hx
  exact h.2.2 x hx y hy
 rw[List.append_assoc];exact List.Perm.append_left a (List.perm_append_singleton p b).symm
theorem zhb(f : yc)(p : Int) : ByAge f (zap f p) ∧ (zap f p).Perm (zd6 f p f.people.length) := by
 unfold zap;refine za3 (fun i (v:List Int)=>ByAge f v∧v.Perm (zd6 f p i)) (fun (r:List Int)=>ByAge f r∧r.Perm (zd6 f p f.people.length)) ⟨List.Pairwise.nil,.refl _⟩ (fun i v next hi hv hn=>?_) (fun v hv=>hv);refine zaj (p:=fun (r:List Int)=>ByAge f r∧r.Perm (zd6 f p f.people.length)) (fun c=>hn _ ?_) (fun c=>hn _ ?_)
 ·have h := z1k (i : Int) hv.1;refine ⟨h.1, ?_⟩;rw [zfv, if_pos (show isKid f p i = true from c)];exact h.2.trans (hv.2.append_right _)
 refine⟨hv.1,?_⟩;rw[zfv,if_neg (by rw[show isKid f p i=false from c];simp),List.append_nil];exact hv.2
theorem zt7(f : yc)(p : Int)(hf : f.people.length ≤ 40) : ByAge f (zau f p) ∧ (zau f p).Perm (zd6 f p f.people.length) := by
 unfold zau zd1;refine za3 (fun i (v:List Int)=>v=zd6 f p i) (fun (r:List Int)=>ByAge f r∧r.Perm (zd6 f p f.people.length)) rfl (fun i v next hi hv hn=>?_) (fun v hv=>?_)
 ·refine zaj (p := fun (r : List Int) => ByAge f r ∧ r.Perm (zd6 f p f.people.length)) (fun c => hn _ ?_) (fun c => hn _ ?_)
  ·rw [hv, zfv, if_pos (show isKid f p i = true from c)]
  rw[hv,zfv,if_neg (by rw[show isKid f p i=false from c];simp),List.append_nil]
 have h:=zuz f v (by rw[hv];have:=zvt f p f.people.length;omega);rw[hv] at h;revert h;subst hv;exact fun h=>h
theorem zh6(f:yc)(p:Int)(hf:f.people.length≤40):zau f p=zap f p:=by have h1:=zt7 f p hf;have h2:=zhb f p;exact zup h1.1 h2.1 (h1.2.trans h2.2.symm)
theorem zg9(f:yc)(p:Int):(∀c∈zap f p,0≤c∧c<f.people.length)∧(zap f p).length≤f.people.length:=⟨fun c hc=>zvs ((zhb f p).2.mem_iff.1 hc),zha f p⟩
theorem zcn(f:yc)(p:Int)(hf:f.people.length≤40):(∀c∈zau f p,0≤c∧c<f.people.length)∧(zau f p).length≤f.people.length:=by rw[zh6 f p hf];exact zg9 f p
end Go.Proofs.YtnibbmmljamolaaGreat
