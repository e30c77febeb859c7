import Derived.Test.YtnibbmmljamolaaGreatSA
set_option maxHeartbeats 4000000
set_option linter.unusedSimpArgs false
set_option linter.unusedVariables false
namespace Go.Proofs.YtnibbmmljamolaaGreat
open Go Go.Lite Go.Proofs
section
variable {α:Type} [Inhabited α] {R:α→α→Bool}
structure InsI(R : α → α → Bool)(a i j : Int)(l : List α) : Prop where
  b:a≤j∧j≤i
  pr:∀p q,a≤p→p<q→q≤i→p≠j→q≠j→R (gi l q) (gi l p)=false
  up:∀q,j<q→q≤i→R (gi l q) (gi l j)=false
theorem InsI.start{a i:Int}{l:List α}(h:a≤i)(hs:Srt R a i l):InsI R a i i l:=⟨vdh,fun p q h1 h2 h3 _ h5=>hs p q h1 h2 vdh,fun q h1 h2=>absurd h1 vdh⟩
theorem InsI.step(hR : SWO R){a i j : Int}{l : List α}(h : InsI R a i j l)(ha : 0 ≤ a)(hl : i < l.length)(hj : a < j)(hr : R (gi l j) (gi l (j - 1)) = true) : InsI R a i (j - 1) (swp l j (j - 1)) := by
 have hb:=h.b;have hg:=fun (k:Int) (hk:0≤k)=>zmt l j (j - 1) k vdh vdh hk;refine⟨vdh,fun p q h1 h2 h3 h4 h5=>?_,fun q h1 h2=>?_⟩
 ·rw [hg p vdh, hg q vdh, if_neg h4, if_neg h5];split
  ·rw [if_neg vdh];exact h.pr p (j - 1) h1 vdh vdh vdh vdh
  split
  ·exact h.pr (j - 1) q vdh vdh h3 vdh vdh
  exact h.pr p q h1 h2 h3 vdh vdh
 rw[hg q vdh,hg (j - 1) vdh,if_neg vdh,if_pos rfl];split
 ·exact hR.asym _ _ hr
 exact h.up q vdh h2
theorem InsI.done(hR : SWO R){a i j : Int}{l : List α}(h : InsI R a i j l)(hr : a < j → R (gi l j) (gi l (j - 1)) = false) : Srt R a (i + 1) l := by
 have hb:=h.b;intro p q h1 h2 h3;by_cases e1:p=j
 ·subst e1; exact h.up q h2 vdh
 by_cases e2:q=j
 ·subst e2;by_cases e3 : p = q - 1
  ·subst e3; exact hr vdh
  exact hR.ntr _ _ _ (hr vdh) (h.pr p (q - 1) h1 vdh vdh e1 vdh)
 exact h.pr p q h1 h2 vdh e1 e2
theorem Srt.adj(hR : SWO R){a b : Int}{l : List α}(h : ∀k, a < k → k < b → R (gi l k) (gi l (k - 1)) = false) : Srt R a b l := by
 have key : ∀(n : Nat) (i : Int), a ≤ i → i + n + 1 < b → R (gi l (i + n + 1)) (gi l i) = false := by
  intro n;induction n with
  |zero =>intro i h1 h2;have:=h (i+1) vdh (by simp at h2;omega);simpa using this
  |succ n ih =>intro i h1 h2;have e:=ih i h1 vdh;have e2:=h (i+(n+1:Nat)+1) vdh h2;have e3:(i+(n+1:Nat)+1 - 1:Int)=i+n+1:=vdh;rw[e3] at e2;exact hR.ntr _ _ _ e2 e
 intro i j h1 h2 h3;have:=key (j - i - 1).toNat i h1 vdh;have e:i+((j - i - 1).toNat:Int)+1=j:=vdh
 rwa [e] at this
def Heap(R:α→α→Bool)(f k n:Int)(l:List α):Prop:=∀r c,k≤r→(c=2 * r+1∨c=2 * r+2)→c<n→R (gi l (f+r)) (gi l (f+c))=false
structure HeapI(R : α → α → Bool)(f k n r : Int)(l : List α) : Prop where
  b:k≤r
  ot:∀q c,k≤q→q≠r→(c=2 * q+1∨c=2 * q+2)→c<n→R (gi l (f+q)) (gi l (f+c))=false
  gr:∀q c,k≤q→(r=2 * q+1∨r=2 * q+2)→(c=2 * r+1∨c=2 * r+2)→c<n→R (gi l (f+q)) (gi l (f+c))=false
theorem HeapI.start{f k n:Int}{l:List α}(hk:0≤k)(h:Heap R f (k+1) n l):HeapI R f k n k l:=⟨vdh,fun q c h1 h2 h3 h4=>h q c vdh h3 h4,fun q c h1 h2=>absurd h1 vdh⟩
theorem HeapI.done{f k n r : Int}{l : List α}(h : HeapI R f k n r l)(hr : ∀c, (c = 2 * r + 1 ∨ c = 2 * r + 2) → c < n → R (gi l (f + r)) (gi l (f + c)) = false) : Heap R f k n l := by
 intro q c h1 h2 h3;by_cases e:q=r
 ·subst e; exact hr c h2 h3
 exact h.ot q c h1 e h2 h3
theorem HeapI.step(hR : SWO R){f k n r c : Int}{l : List α}(h : HeapI R f k n r l)(h0 : 0 ≤ f ∧ 0 ≤ k ∧ f + n ≤ l.length)(hc : c = 2 * r + 1 ∨ c = 2 * r + 2)(hcn : c < n)(hr : R (gi l (f + r)) (gi l (f + c)) = true)(ho : ∀d, (d = 2 * r + 1 ∨ d = 2 * r + 2) → d < n → R (gi l (f + c)) (gi l (f + d)) = false) : HeapI R f k n c (swp l (f + r) (f + c)) := by
 have hb:=h.b;have hg:=fun (k:Int) (hk:0≤k)=>zmt l (f+r) (f+c) k vdh vdh hk;refine⟨vdh,fun q d h1 h2 h3 h4=>?_,fun q d h1 h2 h3 h4=>?_⟩
 ·rw [hg (f + q) vdh, hg (f + d) vdh, if_neg vdh];by_cases e : q = r
  ·subst e;rw [if_pos rfl];by_cases e2 : d = c
   ·subst e2; rw [if_pos rfl]; exact hR.asym _ _ hr
   rw[if_neg vdh,if_neg vdh];exact ho d h3 h4
  rw[if_neg vdh];by_cases e2:d=r
  ·subst e2;rw [if_neg vdh, if_pos rfl];exact h.gr q c h1 h3 hc hcn
  rw[if_neg vdh,if_neg vdh];exact h.ot q d h1 e h3 h4
 have e:q=r:=vdh
 subst e;rw[hg (f+q) vdh,hg (f+d) vdh,if_neg vdh,if_pos rfl,if_neg vdh,if_neg vdh];exact h.ot c d vdh vdh h3 h4
theorem Heap.top(hR : SWO R){f n : Int}{l : List α}(h : Heap R f 0 n l) : ∀(m : Nat), (m : Int) < n → R (gi l f) (gi l (f + m)) = false := by
 intro m;induction m using Nat.strongRecOn with
 |_ m ih =>
  intro hm;by_cases e:m=0
  ·subst e; simpa using hR.irr _
  have h1:=ih ((m - 1) / 2) vdh vdh;exact hR.ntr _ _ _ h1 (h (((m - 1) / 2:Nat):Int) m vdh vdh hm)
structure Done(R : α → α → Bool)(x1 x2 a b : Int)(l : List α) : Prop where
  d:∀i j,x1≤i→i<j→j<x2→(i<a∨b≤j)→R (gi l j) (gi l i)=false
  p:0<x1→∀k,x1≤k→k<x2→R (gi l k) (gi l (x1 - 1))=false
theorem Done.sw{x1 x2 a b : Int}{l l' : List α}(h : Done R x1 x2 a b l)(hs : Sw a b l l')(h0 : 0 ≤ x1 ∧ x1 ≤ a ∧ a ≤ b ∧ b ≤ x2 ∧ x2 ≤ l.length) : Done R x1 x2 a b l' := by
 have ho:=fun (k:Int) (hk:0≤k) (h2:k<a∨b≤k)=>hs.out vdh vdh hk h2;refine⟨fun i j h1 h2 h3 h4=>?_,fun hp k h1 h2=>?_⟩
 ·by_cases ei : i < a ∨ b ≤ i
  ·rw [ho i vdh ei];by_cases ej : j < a ∨ b ≤ j
   ·rw [ho j vdh ej]; exact h.d i j h1 h2 h3 h4
   exact hs.all vdh vdh (P:=fun y=>R y (gi l i)=false) (fun k k1 k2=>h.d i k h1 vdh vdh vdh) j vdh vdh
  rw[ho j vdh vdh];exact hs.all vdh vdh (P:=fun y=>R (gi l j) y=false) (fun k k1 k2=>h.d k j vdh vdh h3 vdh) i vdh vdh
 rw[ho (x1 - 1) vdh vdh];by_cases ek:k<a∨b≤k
 ·rw [ho k vdh ek]; exact h.p hp k h1 h2
 exact hs.all vdh vdh (P:=fun y=>R y (gi l (x1 - 1))=false) (fun k k1 k2=>h.p hp k vdh vdh) k vdh vdh
theorem Done.fin{x1 x2 a b : Int}{l : List α}(h : Done R x1 x2 a b l)(hs : Srt R a b l) : Srt R x1 x2 l := fun i j h1 h2 h3 => by
  by_cases e:i<a∨b≤j
  · exact h.d i j h1 h2 h3 e
  · exact hs i j vdh h2 vdh
theorem Done.pb{x1 x2 a b : Int}{l : List α}(h : Done R x1 x2 a b l)(h0 : 0 ≤ x1 ∧ x1 ≤ a ∧ b ≤ x2)(ha : 0 < a) : ∀k, a ≤ k → k < b → R (gi l k) (gi l (a - 1)) = false := fun k h1 h2 => by
  by_cases e:a=x1
  · subst e;exact h.p ha k h1 vdh
  · exact h.d (a - 1) k vdh vdh vdh vdh
theorem Done.left(hR : SWO R){x1 x2 a b mid : Int}{l l' : List α}{p : α}(h : Done R x1 x2 a b l)(h0 : 0 ≤ x1 ∧ x1 ≤ a ∧ b ≤ x2 ∧ x2 ≤ l.length ∧ a ≤ mid ∧ mid < b)(hp : gi l mid = p)(lo : ∀k, a ≤ k → k < mid → R (gi l k) p = true)(hi : ∀k, mid < k → k < b → R (gi l k) p = false)(hs : Sw a mid l l')(ht : Srt R a mid l') : Done R x1 x2 (mid + 1) b l' := by
 have hd:=h.sw (hs.mono (c:=a) (d:=b) vdh vdh) vdh;have ho:=fun (k:Int) (hk:0≤k) (h2:k<a∨mid≤k)=>hs.out vdh vdh hk h2;have lo':=hs.all vdh vdh (P:=fun y=>R y p=true) lo;refine⟨fun i j h1 h2 h3 h4=>?_,hd.p⟩;by_cases e:i<a∨b≤j
 ·exact hd.d i j h1 h2 h3 e
 by_cases ei:i<mid
 ·by_cases ej : j < mid
  ·exact ht i j vdh h2 ej
  rw[ho j vdh vdh];by_cases ej2:j=mid
  ·subst ej2; rw [hp]; exact hR.asym _ _ (lo' i vdh ei)
  exact hR.ntr _ _ _ (hi j vdh vdh) (hR.asym _ _ (lo' i vdh ei))
 have e3:i=mid:=vdh
 subst e3;rw[ho i vdh vdh,ho j vdh vdh,hp];exact hi j vdh vdh
theorem Done.right(hR : SWO R){x1 x2 a b mid : Int}{l l' : List α}{p : α}(h : Done R x1 x2 a b l)(h0 : 0 ≤ x1 ∧ x1 ≤ a ∧ b ≤ x2 ∧ x2 ≤ l.length ∧ a ≤ mid ∧ mid < b)(hp : gi l mid = p)(lo : ∀k, a ≤ k → k < mid → R (gi l k) p = true)(hi : ∀k, mid < k → k < b → R (gi l k) p = false)(hs : Sw (mid + 1) b l l')(ht : Srt R (mid + 1) b l') : Done R x1 x2 a mid l' := by
 have hd:=h.sw (hs.mono (c:=a) (d:=b) vdh vdh) vdh;have ho:=fun (k:Int) (hk:0≤k) (h2:k<mid+1∨b≤k)=>hs.out vdh vdh hk h2;have hi':=hs.all vdh vdh (P:=fun y=>R y p=false) (fun k k1 k2=>hi k vdh k2);refine⟨fun i j h1 h2 h3 h4=>?_,hd.p⟩;by_cases e:i<a∨b≤j
 ·exact hd.d i j h1 h2 h3 e
 by_cases ej:j=mid
 ·subst ej;rw [ho j vdh vdh, ho i vdh vdh, hp];exact hR.asym _ _ (lo i vdh h2)
 by_cases ei:i<mid
 ·rw [ho i vdh vdh];exact hR.ntr _ _ _ (hi' j vdh vdh) (hR.asym _ _ (lo i vdh ei))
 by_cases ei2:i=mid
 ·subst ei2;rw [ho i vdh vdh, hp];exact hi' j vdh vdh
 exact ht i j vdh h2 vdh
theorem Done.eqs(hR : SWO R){x1 x2 a b m : Int}{l l' : List α}{p : α}(h : Done R x1 x2 a b l)(h0 : 0 ≤ x1 ∧ x1 ≤ a ∧ b ≤ x2 ∧ x2 ≤ l.length ∧ a + 1 ≤ m ∧ m ≤ b)(ha : 0 < a)(hc : R (gi l (a - 1)) p = false)(hs : Sw a b l l')(hp : gi l' a = p)(lo : ∀k, a < k → k < m → R p (gi l' k) = false)(hi : ∀k, m ≤ k → k < b → R p (gi l' k) = true) : Done R x1 x2 m b l' := by
 have hd := h.sw hs vdh;have hpb := hd.pb vdh ha;have ho := hs.out (k := a - 1) vdh vdh vdh vdh;have lo2 : ∀k, a ≤ k → k < m → R p (gi l' k) = false := fun k h1 h2 => by
  by_cases e:k=a
  ·subst e; rw [hp]; exact hR.irr _
  exact lo k vdh h2
 refine⟨fun i j h1 h2 h3 h4=>?_,hd.p⟩;by_cases e:i<a∨b≤j
 ·exact hd.d i j h1 h2 h3 e
 by_cases ej:j<m
 ·have q := hpb j vdh vdh;rw [ho] at q;exact hR.ntr _ _ _ (hR.ntr _ _ _ q hc) (lo2 i vdh vdh)
 exact hR.ntr _ _ _ (hR.asym _ _ (hi j vdh vdh)) (lo2 i vdh vdh)
end
def C70(R:Bool):LV×List (Nat×BC):=(.bool R,[])
def zag(x0:yc)(x1:Int)(x2:Int):Bool:=(decide (((x0.people.getD x1.toNat default).born)<((x0.people.getD x2.toNat default).born)))||((decide (((x0.people.getD x1.toNat default).born)=((x0.people.getD x2.toNat default).born)))&&(decide (x1<x2)))
def A70(x0:yc)(x1:Int)(x2:Int):Ann:=let q4:=((x0.people.length:Nat):Int);let q1:=((x0.people.getD x1.toNat default).born)<((x0.people.getD x2.toNat default).born);let q2:=decide (((x0.people.getD x1.toNat default).born)=((x0.people.getD x2.toNat default).born));let q3:=decide q1;.reg 3 [] [] [6] [] [!q3,(!q3)&&q2,decide q1] [pf (0≤(x1:Int)∧(x1:Int)<q4),pf (0≤(x2:Int)∧(x2:Int)<q4),gt (!q3) (gt q2 (pf (((!q3)&&q2)=true)))] [] [0,4,1,1,1,5,5,1,8,10] (rt [] (C70 (q3||(q2&&(decide (x1<x2))))))
theorem zom(x0:yc)(x1:Int)(x2:Int)(h1:0≤x1∧x1<x0.people.length)(h2:0≤x2∧x2<x0.people.length):FnT Tryz.prog 70 [.agg (zaw false x0),.int .i64 x1,.int .i64 x2] (C70 (zag x0 x1 x2)):=by have aux:∀R,zag x0 x1 x2=R→slim (C70 R) (A70 x0 x1 x2) []:=(by intro R hR;refine rg ⟨vdg,vdg,vbj,trivial⟩ ?_;exact oe C70 hR);exact Fn.go 34 Tryz.func70 zaa zaa (by simp[C70,Frs,FrsL]) (A70 x0 x1 x2) zaa (aux _ rfl)
def k70(x0:yc)(x1:Int)(x2:Int):Cl:=(hres (C70 (zag x0 x1 x2)),k2 (zom x0 x1 x2))
def OkL(f:yc)(l:List Int):Prop:=∀c∈l,0≤c∧c<f.people.length
theorem OkL.at{f:yc}{l:List Int}(h:OkL f l){i:Int}(hi:0≤i∧i<l.length):0≤l.getD i.toNat default∧l.getD i.toNat default<f.people.length:=by have e:l.getD i.toNat default=l[i.toNat]' vdh:=(by rw[oi,ol vdh];rfl);rw[e];exact h _ (List.getElem_mem _)
theorem OkL.sw{f:yc}{l l':List Int}(h:OkL f l){a b:Int}(hs:Sw a b l l')(hab:0≤a∧b≤l.length):OkL f l':=fun c hc=>h c ((hs.perm hab.1 hab.2).mem_iff.1 hc)

def C107(R:Bool):LV×List (Nat×BC):=(.bool R,[])
def zal(x0:Int)(x1:Int)(x2:yc)(x3:List Int):Bool:=zag x2 (x3.getD x0.toNat default) (x3.getD x1.toNat default)
def A107(x0:Int)(x1:Int)(x2:yc)(x3:List Int):Ann:=let q3:=((x3.length:Nat):Int);let q1:=x3.getD x0.toNat default;let q2:=x3.getD x1.toNat default;.reg 2 [] [(1009,k70 x2 q1 q2)] [6] [] [] [pf (0≤(x0:Int)∧(x0:Int)<q3),pf (0≤(x1:Int)∧(x1:Int)<q3)] [] [0,4,8] (rt [] (C107 (zag x2 q1 q2)))
structure ye where
  c0:yc
  l:List Int
  deriving Inhabited
def kswE(d : Nat)(ids : List Nat)(l : List Int)(i j : Int) : Cl := (.resM d ids [(900000, .arr 1 (swp l i j).length (rowOf (cInt .i64) (swp l i j)))] (.tup []), k2 (P := FnX Tryz.prog 126 [.int .i64 i, .int .i64 j, .own 900000, .k Tryz.prog.globals.size 3] [.arr 1 l.length (rowOf (cInt .i64) l)] (.tup []) [(900000, .arr 1 (swp l i j).length (rowOf (cInt .i64) (swp l i j)))])
  fun hi hj=>FnX.swap (b:=true) (ag:=false) Tryz.func126 zaa zaa zaa (by rfl) zaa zaa zaa (by intro _;rfl) hi hj)
def OkE(x:ye):Prop:=OkL x.c0 x.l

theorem zna(x0:Int)(x1:Int)(x2:yc)(x3:List Int)(h0:0≤x0∧x0<x3.length)(h1:0≤x1∧x1<x3.length)(hok:OkL x2 x3):FnT Tryz.prog 107 [.int .i64 x0,.int .i64 x1,.ep [.ro false 6 x2.people.length (rowOf (zah false) x2.people),.ro false 4 x2.unions.length (rowOf (zas false) x2.unions)] 0,.ep [.ro false 1 x3.length (rowOf (cInt .i64) x3)] 0] (C107 (zal x0 x1 x2 x3)):=by have aux:∀R,zal x0 x1 x2 x3=R→slim (C107 R) (A107 x0 x1 x2 x3) []:=(by intro R hR;refine rg ⟨vdg,vdg,⟨by(have h8:=hok.at h0;have h9:=hok.at h1;omega),by(have h8:=hok.at h0;have h9:=hok.at h1;omega)⟩,trivial⟩ ?_;exact oe C107 hR);exact Fn.go 17 Tryz.func107 zaa zaa (by simp[C107,Frs,FrsL]) (A107 x0 x1 x2 x3) zaa (aux _ rfl)
def k107(x0:Int)(x1:Int)(x2:yc)(x3:List Int):Cl:=(hres (C107 (zal x0 x1 x2 x3)),k3 (zna x0 x1 x2 x3))
def C133E(x0:ye)(x1:Int)(x2:Int)(R:(List Int)):LV×List (Nat×BC):=(.tup [],[(900000,.arr 1 R.length (rowOf (cInt .i64) R)),(900001,.var [.ro false 6 x0.c0.people.length (rowOf (zah false) x0.c0.people),.ro false 4 x0.c0.unions.length (rowOf (zas false) x0.c0.unions)]),(900002,.var [.own 900000])])
def zdz(x0:ye)(x1:Int)(x2:Int):(List Int):=loopW (fun (v1:Int×(List Int)) nx1=>bif(decide (v1.1<x2)) then(loopW (fun (v2:Int×(List Int)) next=>bif((decide (x1<v2.1))&&(zal v2.1 (v2.1 - 1) x0.c0 v2.2)) then(next (v2.1 - 1,(swp v2.2 v2.1 (v2.1 - 1)))) else(nx1 (v1.1+1,v2.2))) ((v1.1).toNat+1) (v1.1,v1.2)) else v1.2) ((x2 - (x1+1)).toNat+1) (x1+1,x0.l)
def zwt(v1:Int×(List Int)):Dl:=⟨[(6,.int .i64 v1.1)],[(900000,.arr 1 v1.2.length (rowOf (cInt .i64) v1.2))]⟩
def zws(v2:Int×(List Int)):Dl:=⟨[(7,.int .i64 v2.1)],[(900000,.arr 1 v2.2.length (rowOf (cInt .i64) v2.2))]⟩
def z6q(x0:ye)(x1:Int)(v1:Int×(List Int))(v2:Int×(List Int)):Ann:=let q1:=v2.1 - 1;let q2:=decide (x1<v2.1);let q3:=inR .i64 q1;.reg 1 [] [(9,cg q2 (k107 v2.1 q1 x0.c0 v2.2))] [1,2,3,6,7,26] [3,900000,900001,900002] [decide (x1<v2.1)] [gt q2 (pf q3)] [] [1,1,0,1,1,1,4,1] (cn (q2&&(zal v2.1 q1 x0.c0 v2.2)) (.reg 1 [] [(5,kswE 504 [900000] v2.2 v2.1 q1)] [1,2,3,6,7] [3,900000,900001,900002] [] [pf q3] [] [0,4] (r1 1 [1,2,3,6,7] [3,900000,900001,900002] [pf q3] [0] (.next 0 [(900000,some 900000)] (zws (v2.1 - 1,(swp v2.2 v2.1 q1)))))) (r1 1 [1,2,3,6] [3,900000,900001,900002] [pf (inR .i64 (v1.1+1))] [0] (.next 1 [(900000,some 900000)] (zwt (v1.1+1,v2.2)))))
def z6r(x0:ye)(x1:Int)(x2:Int)(v1:Int×(List Int)):Ann:=r0 1 [1,2,3,6,12] [3,900000,900001,900002] (cn (decide (v1.1<x2)) (r0 1 [1,2,3,6,7] [3,900000,900001,900002] (.loop (Int×(List Int)) (zws) [] [] [(900000,some 900000)] (zws (v1.1,v1.2)) (z6q x0 x1 v1))) (rt [(900000,some 900000),(900001,some 900001),(900002,some 900002)] (C133E x0 x1 x2 v1.2)))
def A133E(x0:ye)(x1:Int)(x2:Int):Ann:=r1 2 [1,2,3,6] [3,900000,900001,900002] [pf (inR .i64 (x1+1))] [0] (.loop (Int×(List Int)) (zwt) [] [] [(900000,some 900000)] (zwt (x1+1,x0.l)) (z6r x0 x1 x2))
theorem zc4(x0 : ye)(x1 x2 : Int)(h : 0 ≤ x1 ∧ x1 ≤ x2) : Sw x1 x2 x0.l (zdz x0 x1 x2) := by
 unfold zdz;refine za8 (fun v=>x1+1≤v.1∧Sw x1 x2 x0.l v.2) (fun v=>(x2 - v.1).toNat) (fun l=>Sw x1 x2 x0.l l) (fun v next hv hn=>?_) _ _ vcT ⟨vdj,.refl⟩;cases hc:decide (v.1<x2) with
 |false =>exact hv.2
 |true =>
  have hc:=om hc;refine za8 (fun w=>(x1≤w.1∧w.1≤v.1)∧Sw x1 x2 x0.l w.2) (fun w=>w.1.toNat) (fun l=>Sw x1 x2 x0.l l) (fun w next2 hw hn2=>?_) _ _ vcT ⟨vcT,hv.2⟩;cases hd:decide (x1<w.1)&&zal w.1 (w.1 - 1) x0.c0 w.2 with
  |false =>exact hn _ ⟨vcT,hw.2⟩ vcT
  |true =>simp only[oc,ob] at hd;exact hn2 _ ⟨vcT,.step hw.2 _ _ vdh vdh⟩ vcT

theorem zf6(x0 : ye)(x1 : Int)(x2 : Int)(hx : x0.l.length ≤ 255)(hok : OkE x0)(hab : 0 ≤ x1 ∧ x1 ≤ x2 ∧ x2 ≤ x0.l.length) : FnMT Tryz.prog 133 [.agg [.clo 107 [.vp 900001 0, .vp 900002 0], .clo 126 [.own 900000, .k Tryz.prog.globals.size 3]], .int .i64 x1, .int .i64 x2] [.arr 1 x0.l.length (rowOf (cInt .i64) x0.l), .var [.ro false 6 x0.c0.people.length (rowOf (zah false) x0.c0.people), .ro false 4 x0.c0.unions.length (rowOf (zas false) x0.c0.unions)], .var [.own 900000]] (C133E x0 x1 x2 (zdz x0 x1 x2)) := by
 have aux : ∀R, zdz x0 x1 x2 = R → slim (C133E x0 x1 x2 R) (A133E x0 x1 x2) [] := by
  intro R hR;refine rg ⟨vcx,trivial⟩ ?_;refine lW (fun v=>x1+1≤v.1∧(Sw x1 x2 x0.l v.2∧v.2.length=x0.l.length)) (fun v=>(x2 - (v.1)).toNat) (by(((try clear hR);(try clear hK1);(try clear hK2);intros;(try simp only[w1,w2,w3,w4,w5,w6,za4,inR,IntKind.bits] at *));refine⟨vdh,?_,trivial⟩;((repeat first|refine Sw.step ?_ _ _ vdh vdh)<;>first|exact hI2.2.1|exact hI1.2.1|exact Sw.refl|exact hI2.2.1.mono vdh vdh|exact hI1.2.1.mono vdh vdh))) (oH _) rfl (fun m1 v1 F1 hI1 hM1 hR hK1=>?_) hR;refine rT ?_;refine cd (fun hc1 hR=>?_) (fun hc1 hR=>?_) hR
  ·refine rT ?_;refine lW (fun v => (x1 ≤ v.1 ∧ v.1 ≤ v1.1) ∧ (Sw x1 x2 x0.l v.2 ∧ v.2.length = x0.l.length)) (fun v => (v.1).toNat) (by (((try clear hR); (try clear hK1); (try clear hK2); intros; (try simp only [w1, w2, w3, w4, w5, w6, za4, inR, IntKind.bits] at *)); refine ⟨vdh, Sw.both ?_⟩; ((repeat first | refine Sw.step ?_ _ _ vdh vdh) <;> first | exact hI2.2.1 | exact hI1.2.1 | exact Sw.refl | exact hI2.2.1.mono vdh vdh | exact hI1.2.1.mono vdh vdh))) (oH _) rfl (fun m2 v2 F2 hI2 hM2 hR hK2 => ?_) hR;refine rg ⟨vbh, fun hg0 => ⟨vbh, vbh, by (exact OkL.sw (a := 0) (b := x0.l.length) hok (by ((try clear hR); (try clear hK1); (try clear hK2); intros; (try simp only [w1, w2, w3, w4, w5, w6, za4, inR, IntKind.bits] at *)); ((repeat first | refine Sw.step ?_ _ _ vdh vdh) <;> first | exact hI2.2.1 | exact hI1.2.1 | exact Sw.refl | exact hI2.2.1.mono vdh vdh | exact hI1.2.1.mono vdh vdh)) ⟨vdh, vdh⟩)⟩, trivial⟩ ?_;refine cd (fun hc2 hR => ?_) (fun hc2 hR => ?_) hR
   ·refine rg ⟨vbh, ⟨vbh, vbh⟩, trivial⟩ ?_;refine rg ⟨vbh, trivial⟩ ?_;exact hK2 (v2.1 - 1, (swp v2.2 v2.1 (v2.1 - 1))) (by (((try clear hR); (try clear hK1); (try clear hK2); intros; (try simp only [w1, w2, w3, w4, w5, w6, za4, inR, IntKind.bits] at *)); (repeat' apply And.intro) <;> first | omega | ((repeat first | refine Sw.step ?_ _ _ vdh vdh) <;> first | exact hI2.2.1 | exact hI1.2.1 | exact Sw.refl | exact hI2.2.1.mono vdh vdh | exact hI1.2.1.mono vdh vdh))) vbh hR
   refine rg ⟨vbp,trivial⟩ ?_;exact hK1 (v1.1+1,v2.2) (by(((try clear hR);(try clear hK1);(try clear hK2);intros;(try simp only[w1,w2,w3,w4,w5,w6,za4,inR,IntKind.bits] at *));refine⟨vdh,Sw.both ?_⟩;((repeat first|refine Sw.step ?_ _ _ vdh vdh)<;>first|exact hI2.2.1|exact hI1.2.1|exact Sw.refl|exact hI2.2.1.mono vdh vdh|exact hI1.2.1.mono vdh vdh))) vbp hR
  exact oe (C133E x0 x1 x2) hR
 exact FnM.go 35 Tryz.func133 zaa zaa (A133E x0 x1 x2) zaa (aux _ rfl)
def k133E(d:Nat)(ids:List Nat)(x0:ye)(x1:Int)(x2:Int):Cl:=(hresM d ids (C133E x0 x1 x2 (zdz x0 x1 x2)),k3 (zf6 x0 x1 x2))
def C143E(x0:ye)(x1:Int)(x2:Int)(x3:Int)(R:(List Int)):LV×List (Nat×BC):=(.tup [],[(900000,.arr 1 R.length (rowOf (cInt .i64) R)),(900001,.var [.ro false 6 x0.c0.people.length (rowOf (zah false) x0.c0.people),.ro false 4 x0.c0.unions.length (rowOf (zas false) x0.c0.unions)]),(900002,.var [.own 900000])])
def zb3(x0:ye)(x1:Int)(x2:Int)(x3:Int):(List Int):=loopW (fun (v1:Int×(List Int)) next=>bif(decide (x2≤((2 * v1.1)+1))) then v1.2 else(bif((decide ((((2 * v1.1)+1)+1)<x2))&&(zal (x3+((2 * v1.1)+1)) ((x3+((2 * v1.1)+1))+1) x0.c0 v1.2)) then(bif(!(zal (x3+v1.1) (x3+(((2 * v1.1)+1)+1)) x0.c0 v1.2)) then v1.2 else(next (((2 * v1.1)+1)+1,(swp v1.2 (x3+v1.1) (x3+(((2 * v1.1)+1)+1)))))) else(bif(!(zal (x3+v1.1) (x3+((2 * v1.1)+1)) x0.c0 v1.2)) then v1.2 else(next ((2 * v1.1)+1,(swp v1.2 (x3+v1.1) (x3+((2 * v1.1)+1)))))))) ((x2+255 - (x1)).toNat+1) (x1,x0.l)
def zs1(v1:Int×(List Int)):Dl:=⟨[(8,.int .i64 v1.1)],[(900000,.arr 1 v1.2.length (rowOf (cInt .i64) v1.2))]⟩
def z53(x0:ye)(x1:Int)(x2:Int)(x3:Int)(v1:Int×(List Int)):Ann:=let q3:=x3+v1.1;let q1:=(2 * v1.1)+1;let q7:=inR .i64 q3;let q4:=x3+q1;let q6:=x3+(q1+1);let q8:=inR .i64 q4;let q5:=decide ((q1+1)<x2);let q2:=(rt [(900000,some 900000),(900001,some 900001),(900002,some 900002)] (C143E x0 x1 x2 x3 v1.2));r1 1 [2,3,4,8,9] [4,900000,900001,900002] [pf (inR .i64 (2 * v1.1)),pf (inR .i64 q1)] [0,4] (r0 1 [2,3,4,8,9,16] [4,900000,900001,900002] (cn (decide (x2≤q1)) q2 (.reg 1 [] [(14,cg q5 (k107 q4 (q4+1) x0.c0 v1.2))] [2,3,4,8,9,32] [4,900000,900001,900002] [decide ((q1+1)<x2)] [pf (inR .i64 (q1+1)),gt q5 (pf q8),gt q5 (pf (inR .i64 (q4+1)))] [] [0,1,1,1,4,1,1,4,1,8,1,1,1,12,1] (cn (q5&&(zal q4 (q4+1) x0.c0 v1.2)) (r1 1 [2,3,4,8,9] [4,900000,900001,900002] [pf (inR .i64 (q1+1))] [0] (.reg 1 [] [(8,k107 q3 q6 x0.c0 v1.2)] [2,3,4,8,9,44] [4,900000,900001,900002] [] [pf q7,pf (inR .i64 q6)] [] [0,4,8] (cn (!(zal q3 q6 x0.c0 v1.2)) q2 (.reg 1 [] [(8,kswE 504 [900000] v1.2 q3 q6)] [2,3,4,8,9] [4,900000,900001,900002] [] [pf q7,pf (inR .i64 q6)] [] [0,4,8] (r0 1 [2,3,4,8] [4,900000,900001,900002] (.next 0 [(900000,some 900000)] (zs1 (q1+1,(swp v1.2 q3 q6))))))))) (.reg 1 [] [(8,k107 q3 q4 x0.c0 v1.2)] [2,3,4,8,9,44] [4,900000,900001,900002] [] [pf q7,pf q8] [] [0,4,8] (cn (!(zal q3 q4 x0.c0 v1.2)) q2 (.reg 1 [] [(8,kswE 504 [900000] v1.2 q3 q4)] [2,3,4,8,9] [4,900000,900001,900002] [] [pf q7,pf q8] [] [0,4,8] (r0 1 [2,3,4,8] [4,900000,900001,900002] (.next 0 [(900000,some 900000)] (zs1 ((2 * v1.1)+1,(swp v1.2 q3 q4))))))))))))
def A143E(x0:ye)(x1:Int)(x2:Int)(x3:Int):Ann:=r0 2 [2,3,4,8] [4,900000,900001,900002] (.loop (Int×(List Int)) (zs1) [] [] [(900000,some 900000)] (zs1 (x1,x0.l)) (z53 x0 x1 x2 x3))
theorem zcx(x0 : ye)(x1 x2 x3 : Int)(h : 0 ≤ x1) : Sw (x3 + x1) (x3 + x2) x0.l (zb3 x0 x1 x2 x3) := by
 unfold zb3;refine za8 (fun v=>x1≤v.1∧Sw (x3+x1) (x3+x2) x0.l v.2) (fun v=>(x2+255 - v.1).toNat) (fun l=>Sw (x3+x1) (x3+x2) x0.l l) (fun v next hv hn=>?_) _ _ vcT ⟨vdj,.refl⟩;cases hc:decide (x2≤2 * v.1+1) with
 |true =>exact hv.2
 |false =>
  simp only[oa] at hc;cases hd:(decide (2 * v.1+1+1<x2))&&(zal (x3+(2 * v.1+1)) ((x3+(2 * v.1+1))+1) x0.c0 v.2) with
  |true =>
   simp only[oc,ob] at hd;cases he:!(zal (x3+v.1) (x3+(2 * v.1+1+1)) x0.c0 v.2) with
   |true =>exact hv.2
   |false =>exact hn _ ⟨vcT,.step hv.2 _ _ vdh vdh⟩ vcT
  |false =>
   cases he:!(zal (x3+v.1) (x3+(2 * v.1+1)) x0.c0 v.2) with
   |true =>exact hv.2
   |false =>exact hn _ ⟨vcT,.step hv.2 _ _ vdh vdh⟩ vcT

theorem zhx(x0 : ye)(x1 : Int)(x2 : Int)(x3 : Int)(hx : x0.l.length ≤ 255)(hok : OkE x0)(hab : 0 ≤ x1 ∧ 0 ≤ x3 ∧ 0 ≤ x2 ∧ x3 + x2 ≤ x0.l.length ∧ x1 ≤ 255) : FnMT Tryz.prog 143 [.agg [.clo 107 [.vp 900001 0, .vp 900002 0], .clo 126 [.own 900000, .k Tryz.prog.globals.size 3]], .int .i64 x1, .int .i64 x2, .int .i64 x3] [.arr 1 x0.l.length (rowOf (cInt .i64) x0.l), .var [.ro false 6 x0.c0.people.length (rowOf (zah false) x0.c0.people), .ro false 4 x0.c0.unions.length (rowOf (zas false) x0.c0.unions)], .var [.own 900000]] (C143E x0 x1 x2 x3 (zb3 x0 x1 x2 x3)) := by
 have aux : ∀R, zb3 x0 x1 x2 x3 = R → slim (C143E x0 x1 x2 x3 R) (A143E x0 x1 x2 x3) [] := by
  intro R hR;refine rT ?_;refine lW (fun v=>(x1≤v.1∧v.1≤255)∧(Sw (x3+x1) (x3+x2) x0.l v.2∧v.2.length=x0.l.length)) (fun v=>(x2+255 - (v.1)).toNat) vaz (oH _) rfl (fun m1 v1 F1 hI1 hM1 hR hK1=>?_) hR;refine rg ⟨vcx,vcx,trivial⟩ ?_;refine rT ?_;refine cd (fun hc1 hR=>?_) (fun hc1 hR=>?_) hR
  ·exact oe (C143E x0 x1 x2 x3) hR
  refine rg ⟨vcx,vcx,vcx,fun hg0=>⟨vbv,vbv,vav⟩,trivial⟩ ?_;refine cd (fun hc2 hR=>?_) (fun hc2 hR=>?_) hR
  ·refine rg ⟨vcq, trivial⟩ ?_;refine rg ⟨vcq, vcq, ⟨vbr, vbr, by (exact OkL.sw (a := 0) (b := x0.l.length) hok (by ((try clear hR); (try clear hK1); intros; (try simp only [w1, w2, w3, w4, w5, w6, za4, inR, IntKind.bits] at *)); ((repeat first | refine Sw.step ?_ _ _ vdh vdh) <;> first | exact hI1.2.1 | exact Sw.refl | exact hI1.2.1.mono vdh vdh)) ⟨vdh, vdh⟩)⟩, trivial⟩ ?_;refine cd (fun hc3 hR => ?_) (fun hc3 hR => ?_) hR
   ·exact oe (C143E x0 x1 x2 x3) hR
   refine rg ⟨vcx,vcx,⟨vbv,vbv⟩,trivial⟩ ?_;refine rT ?_;exact hK1 (((2 * v1.1)+1)+1,(swp v1.2 (x3+v1.1) (x3+(((2 * v1.1)+1)+1)))) vax vbv hR
  refine rg ⟨vcx,vcx,⟨vbv,vbv,vav⟩,trivial⟩ ?_;refine cd (fun hc4 hR=>?_) (fun hc4 hR=>?_) hR
  ·exact oe (C143E x0 x1 x2 x3) hR
  refine rg ⟨vcx,vcx,⟨vbv,vbv⟩,trivial⟩ ?_;refine rT ?_;exact hK1 ((2 * v1.1)+1,(swp v1.2 (x3+v1.1) (x3+((2 * v1.1)+1)))) vax vbv hR
 exact FnM.go 55 Tryz.func143 zaa zaa (A143E x0 x1 x2 x3) zaa (aux _ rfl)
def k143E(d:Nat)(ids:List Nat)(x0:ye)(x1:Int)(x2:Int)(x3:Int):Cl:=(hresM d ids (C143E x0 x1 x2 x3 (zb3 x0 x1 x2 x3)),k3 (zhx x0 x1 x2 x3))
def C134E(x0:ye)(x1:Int)(x2:Int)(R:(List Int)):LV×List (Nat×BC):=(.tup [],[(900000,.arr 1 R.length (rowOf (cInt .i64) R)),(900001,.var [.ro false 6 x0.c0.people.length (rowOf (zah false) x0.c0.people),.ro false 4 x0.c0.unions.length (rowOf (zas false) x0.c0.unions)]),(900002,.var [.own 900000])])
def zdf(x0:ye)(x1:Int)(x2:Int):(List Int):=loopW (fun (v1:Int×(List Int)) next=>bif(decide (0≤v1.1)) then(next (v1.1 - 1,zb3 (ye.mk x0.c0 v1.2) v1.1 (x2 - x1) x1)) else(loopW (fun (v2:Int×(List Int)) next=>bif(decide (0≤v2.1)) then(next (v2.1 - 1,zb3 (ye.mk x0.c0 (swp v2.2 x1 (x1+v2.1))) 0 v2.1 x1)) else v2.2) (((x2 - x1) - 1+1).toNat+1) ((x2 - x1) - 1,v1.2))) ((((x2 - x1) - 1).tdiv 2+1).toNat+1) (((x2 - x1) - 1).tdiv 2,x0.l)
def zwr(v1:Int×(List Int)):Dl:=⟨[(9,.int .i64 v1.1)],[(900000,.arr 1 v1.2.length (rowOf (cInt .i64) v1.2))]⟩
def zwq(v2:Int×(List Int)):Dl:=⟨[(10,.int .i64 v2.1)],[(900000,.arr 1 v2.2.length (rowOf (cInt .i64) v2.2))]⟩
def z6n(x0:ye)(x1:Int)(x2:Int)(v2:Int×(List Int)):Ann:=let q1:=ye.mk x0.c0 (swp v2.2 x1 (x1+v2.1));r0 1 [3,6,7,10,30] [3,900000,900001,900002] (cn (decide (0≤v2.1)) (.reg 1 [] [(6,kswE 504 [900000] v2.2 x1 (x1+v2.1))] [3,6,7,10] [3,900000,900001,900002] [] [pf (inR .i64 (x1+v2.1))] [] [0,4] (.reg 1 [] [(4,k143E 44 [900000,900001,900002] q1 0 v2.1 x1)] [3,6,7,10] [3,900000,900001,900002] [] [] [] [0] (r1 1 [3,6,7,10] [3,900000,900001,900002] [pf (inR .i64 (v2.1 - 1))] [0] (.next 0 [(900000,some 900000)] (zwq (v2.1 - 1,zb3 q1 0 v2.1 x1)))))) (rt [(900000,some 900000),(900001,some 900001),(900002,some 900002)] (C134E x0 x1 x2 v2.2)))
def z6o(x0:ye)(x1:Int)(x2:Int)(v1:Int×(List Int)):Ann:=r0 1 [3,6,7,8,9,19] [3,900000,900001,900002] (cn (decide (0≤v1.1)) (.reg 1 [] [(4,k143E 26 [900000,900001,900002] (ye.mk x0.c0 v1.2) v1.1 (x2 - x1) x1)] [3,6,7,8,9] [3,900000,900001,900002] [] [] [] [0] (r1 1 [3,6,7,8,9] [3,900000,900001,900002] [pf (inR .i64 (v1.1 - 1))] [0] (.next 0 [(900000,some 900000)] (zwr (v1.1 - 1,zb3 (ye.mk x0.c0 v1.2) v1.1 (x2 - x1) x1))))) (r1 1 [3,6,7,10] [3,900000,900001,900002] [pf (inR .i64 ((x2 - x1) - 1))] [0] (.loop (Int×(List Int)) (zwq) [] [] [(900000,some 900000)] (zwq ((x2 - x1) - 1,v1.2)) (z6n x0 x1 x2))))
def A134E(x0:ye)(x1:Int)(x2:Int):Ann:=let q1:=(x2 - x1) - 1;r1 4 [3,6,7,8] [3,900000,900001,900002] [pf (inR .i64 (x2 - x1))] [0] (r1 1 [3,6,7,8,9] [3,900000,900001,900002] [pf (inR .i64 q1),pf ((2:Int)≠0),pf (inR .i64 (q1.tdiv 2))] [0,4,8] (.loop (Int×(List Int)) (zwr) [] [] [(900000,some 900000)] (zwr (q1.tdiv 2,x0.l)) (z6o x0 x1 x2)))
theorem zch(x0 : ye)(x1 x2 : Int)(h : 0 ≤ x1 ∧ x1 ≤ x2) : Sw x1 x2 x0.l (zdf x0 x1 x2) := by
 unfold zdf;refine za8 (fun v=>Sw x1 x2 x0.l v.2) (fun v=>(v.1+1).toNat) (fun l=>Sw x1 x2 x0.l l) (fun v next hv hn=>?_) _ _ vcT .refl;cases hc:decide (0≤v.1) with
 |true =>simp only[ob] at hc;exact hn _ (Sw.via (zcx _ _ _ _ hc) hv vdh vdh) vcT
 |false =>
  refine za8 (fun v=>v.1<x2 - x1∧Sw x1 x2 x0.l v.2) (fun v=>(v.1+1).toNat) (fun l=>Sw x1 x2 x0.l l) (fun v next hv hn=>?_) _ _ vcT ⟨vcT,hv⟩;cases hc:decide (0≤v.1) with
  |true =>simp only[ob] at hc;exact hn _ ⟨vcT,Sw.via (zcx _ _ _ _ vdh) (.step hv.2 _ _ vdh vdh) vdh vdh⟩ vcT
  |false =>exact hv.2

theorem zhy(x0 : ye)(x1 : Int)(x2 : Int)(hx : x0.l.length ≤ 255)(hok : OkE x0)(hab : 0 ≤ x1 ∧ x1 ≤ x2 ∧ x2 ≤ x0.l.length) : FnMT Tryz.prog 134 [.agg [.clo 107 [.vp 900001 0, .vp 900002 0], .clo 126 [.own 900000, .k Tryz.prog.globals.size 3]], .int .i64 x1, .int .i64 x2] [.arr 1 x0.l.length (rowOf (cInt .i64) x0.l), .var [.ro false 6 x0.c0.people.length (rowOf (zah false) x0.c0.people), .ro false 4 x0.c0.unions.length (rowOf (zas false) x0.c0.unions)], .var [.own 900000]] (C134E x0 x1 x2 (zdf x0 x1 x2)) := by
 have aux : ∀R, zdf x0 x1 x2 = R → slim (C134E x0 x1 x2 R) (A134E x0 x1 x2) [] := by
  intro R hR;refine rg ⟨vcx,trivial⟩ ?_;refine rg ⟨vcx,vdg,by(have h9:=tdiv2 (x2 - x1 - 1) vdh;((try clear hR);(try clear hK1);(try clear hK2);intros;(try simp only[w1,w2,w3,w4,w5,w6,za4,inR,IntKind.bits] at *));omega),trivial⟩ ?_;refine lW (fun v=>(-1≤v.1∧v.1<x2 - x1+1)∧(Sw x1 x2 x0.l v.2∧v.2.length=x0.l.length)) (fun v=>(v.1+1).toNat) (by(have h9:=tdiv2 (x2 - x1 - 1) vdh;((try clear hR);(try clear hK1);(try clear hK2);intros;(try simp only[w1,w2,w3,w4,w5,w6,za4,inR,IntKind.bits] at *));refine⟨vdh,?_,trivial⟩;((repeat first|refine Sw.step ?_ _ _ vdh vdh|refine Sw.via (zcx _ _ _ _ vdh) ?_ vdh vdh)<;>first|exact hI2.2.1|exact hI1.2.1|exact Sw.refl|exact hI2.2.1.mono vdh vdh|exact hI1.2.1.mono vdh vdh))) (oH _) rfl (fun m1 v1 F1 hI1 hM1 hR hK1=>?_) hR;refine rT ?_;refine cd (fun hc1 hR=>?_) (fun hc1 hR=>?_) hR
  ·refine rg ⟨⟨vcq, vaf, vbh⟩, trivial⟩ ?_;refine rg ⟨vcq, trivial⟩ ?_;exact hK1 (v1.1 - 1, zb3 (ye.mk x0.c0 v1.2) v1.1 (x2 - x1) x1) vah vbh hR
  refine rg ⟨vcx,trivial⟩ ?_;refine lW (fun v=>(-1≤v.1∧v.1<x2 - x1)∧(Sw x1 x2 x0.l v.2∧v.2.length=x0.l.length)) (fun v=>(v.1+1).toNat) (by(((try clear hR);(try clear hK1);(try clear hK2);intros;(try simp only[w1,w2,w3,w4,w5,w6,za4,inR,IntKind.bits] at *));refine⟨vdh,Sw.both ?_⟩;((repeat first|refine Sw.step ?_ _ _ vdh vdh|refine Sw.via (zcx _ _ _ _ vdh) ?_ vdh vdh)<;>first|exact hI2.2.1|exact hI1.2.1|exact Sw.refl|exact hI2.2.1.mono vdh vdh|exact hI1.2.1.mono vdh vdh))) (oH _) rfl (fun m2 v2 F2 hI2 hM2 hR hK2=>?_) hR;refine rT ?_;refine cd (fun hc2 hR=>?_) (fun hc2 hR=>?_) hR
  ·refine rg ⟨vcq, ⟨vbh, vbh⟩, trivial⟩ ?_;refine rg ⟨⟨vbh, vaf, vbh⟩, trivial⟩ ?_;refine rg ⟨vcq, trivial⟩ ?_;exact hK2 (v2.1 - 1, zb3 (ye.mk x0.c0 (swp v2.2 x1 (x1 + v2.1))) 0 v2.1 x1) vah vbh hR
  exact oe (C134E x0 x1 x2) hR
 exact FnM.go 45 Tryz.func134 zaa zaa (A134E x0 x1 x2) zaa (aux _ rfl)
def k134E(d:Nat)(ids:List Nat)(x0:ye)(x1:Int)(x2:Int):Cl:=(hresM d ids (C134E x0 x1 x2 (zdf x0 x1 x2)),k3 (zhy x0 x1 x2))
end Go.Proofs.YtnibbmmljamolaaGreat
