import Derived.Test.YtaageiiodlfeiaaGreatPR7
set_option maxHeartbeats 4000000
set_option linter.unusedSimpArgs false
set_option linter.unusedVariables false
namespace Go.Proofs.YtaageiiodlfeiaaGreat
open Go Go.Lite Go.Proofs
theorem zvc {r:Relation} (h:zdf r=true):(0≤r.size∧r.size≤40)∧(r.rows.length:Int)=r.size∧∀ y∈r.rows,∀ b∈y,0≤b∧b<r.size:=by
 revert h
 unfold zdf
 refine zbm (p:=fun (b:Bool)=>b=true→(0≤r.size∧r.size≤40)∧(r.rows.length:Int)=r.size∧∀ y∈r.rows,∀ b∈y,0≤b∧b<r.size) (fun _ h=>nomatch h) (fun c=>?_)
 simp only [zbd,decide_eq_false_iff_not,za9,decide_eq_true_eq] at c
 refine zb3 (fun i _=>∀ k,k<i→∀ b∈r.rows.getD k default,0≤b∧b<r.size) (fun (b:Bool)=>b=true→(0≤r.size∧r.size≤40)∧(r.rows.length:Int)=r.size∧∀ y∈r.rows,∀ b∈y,0≤b∧b<r.size) (fun k hk=>absurd hk (Nat.not_lt_zero _)) (fun i v next hi hv hn=>?_) (fun v hv _=>⟨⟨om,om⟩,c.2,fun y hy=>?_⟩)
 ·refine zb3 (fun j _=>∀ k,k<j→0≤(r.rows.getD i default).getD k default∧(r.rows.getD i default).getD k default<r.size) (fun (b:Bool)=>b=true→(0≤r.size∧r.size≤40)∧(r.rows.length:Int)=r.size∧∀ y∈r.rows,∀ b∈y,0≤b∧b<r.size) (fun k hk=>absurd hk (Nat.not_lt_zero _)) (fun j w next2 hj hw hn2=>?_) (fun w hw=>hn _ fun k hk=>?_)
  ·refine zbm (p:=fun (b:Bool)=>b=true→(0≤r.size∧r.size≤40)∧(r.rows.length:Int)=r.size∧∀ y∈r.rows,∀ b∈y,0≤b∧b<r.size) (fun _ h=>nomatch h) (fun c2=>hn2 _ fun k hk=>?_)
   simp only [zbd,decide_eq_false_iff_not] at c2
   by_cases e:k=j
   ·subst e;omega
   ·exact hw k om
  ·by_cases e:k=i
   ·subst e
    intro b hb
    obtain ⟨m,hm,e2⟩:=zdk (d:=default) hb
    rw [← e2];exact hw m hm
   ·exact hv k om
 ·obtain ⟨k,hk,e⟩:=zdk (d:=default) hy
  rw [← e];exact hv k hk
theorem zw0 {r s:Relation} (h:zlg r s=true):(0≤r.size∧r.size≤40)∧(r.rows.length:Int)=r.size∧(s.rows.length:Int)=r.size∧∀ y∈r.rows,∀ b∈y,0≤b∧b<s.rows.length:=by
 unfold zlg at h
 simp only [Bool.and_eq_true,decide_eq_true_eq] at h
 obtain ⟨⟨h1,h2⟩,h3⟩:=h
 have h1:=zvc h1
 have h2:=zvc h2
 exact ⟨h1.1,h1.2.1,om,fun y hy b hb=>by have:=h1.2.2 y hy b hb;omega⟩
def zcn (n:Nat) (is:Int→Int→Bool):List (List Int):=(List.range n).map fun (a:Nat)=>((List.range n).filter fun (b:Nat)=>is (a:Int) (b:Int)).map fun b=>((b:Nat):Int)
theorem z0t (n:Nat) (p:Nat→Bool) {α:Type} (k:List Int→α):loopN (fun i2 (v2:List Int) next=>bif p i2 then next (v2++[((i2:Nat):Int)]) else next v2) k n 0 []=k (((List.range n).filter p).map fun b=>((b:Nat):Int)):=by
 have:∀ (m i:Nat) (l:List Int),i+m=n→l=((List.range i).filter p).map (fun b=>((b:Nat):Int))→loopN (fun i2 (v2:List Int) next=>bif p i2 then next (v2++[((i2:Nat):Int)]) else next v2) k m i l=k (((List.range n).filter p).map fun b=>((b:Nat):Int)):=by
  intro m
  induction m with
  | zero=>intro i l h1 h2;simp only [loopN];rw [h2,show i=n by omega]
  | succ m ih =>
   intro i l h1 h2
   simp only [loopN]
   cases c:p i with
   | true=>exact ih (i+1) _ om (by rw [h2,List.range_succ,List.filter_append];simp [c])
   | false=>exact ih (i+1) _ om (by rw [h2,List.range_succ,List.filter_append];simp [c])
 exact this n 0 [] om rfl
theorem zq0 (n:Nat) (is:Int→Int→Bool) {α:Type} (k:List (List Int)→α):loopN (fun i1 (v1:List (List Int)) nx1=>loopN (fun i2 (v2:List Int) next=>bif is ((i1:Nat):Int) ((i2:Nat):Int) then next (v2++[((i2:Nat):Int)]) else next v2) (fun (v2:List Int)=>nx1 (v1++[v2])) n 0 ([]:List Int)) k n 0 ([]:List (List Int))=k (zcn n is):=by
 have:∀ (m i:Nat) (l:List (List Int)),i+m=n→l=(List.range i).map (fun (a:Nat)=>((List.range n).filter fun (b:Nat)=>is (a:Int) (b:Int)).map fun b=>((b:Nat):Int))→loopN (fun i1 (v1:List (List Int)) nx1=>loopN (fun i2 (v2:List Int) next=>bif is ((i1:Nat):Int) ((i2:Nat):Int) then next (v2++[((i2:Nat):Int)]) else next v2) (fun (v2:List Int)=>nx1 (v1++[v2])) n 0 ([]:List Int)) k m i l=k (zcn n is):=by
  intro m
  induction m with
  | zero=>intro i l h1 h2;simp only [loopN];rw [h2,show i=n by omega];rfl
  | succ m ih =>
   intro i l h1 h2
   simp only [loopN]
   rw [z0t n (fun (b:Nat)=>is (i:Int) (b:Int))]
   exact ih (i+1) _ om (by rw [h2,List.range_succ,List.map_append];rfl)
 exact this n 0 [] om rfl
theorem zgc (n:Nat) (is:Int→Int→Bool):(zcn n is).length=n:=by simp [zcn]
theorem zi7 (n:Nat) (is:Int→Int→Bool) {a:Nat} (h:a<n):(zcn n is).getD a default=((List.range n).filter fun (b:Nat)=>is (a:Int) (b:Int)).map fun b=>((b:Nat):Int):=by
 unfold zcn
 rw [List.getD_eq_getElem?_getD,List.getElem?_map,List.getElem?_range h];rfl
theorem zm7 (n:Nat) (is:Int→Int→Bool) {y:List Int} (h:y∈zcn n is):y.length≤n:=by
 unfold zcn at h
 obtain ⟨a,_,rfl⟩:=List.mem_map.1 h
 rw [List.length_map]
 exact Nat.le_trans (List.length_filter_le _ _) (by rw [List.length_range];exact Nat.le_refl _)
theorem zdx {n:Nat} {is:Int→Int→Bool} {a:Nat} (h:a<n) {b:Int}:b∈(zcn n is).getD a default↔(0≤b∧b<n)∧is (a:Int) b=true:=by
 rw [zi7 n is h,List.mem_map]
 constructor
 ·rintro ⟨c,hc,rfl⟩
  rw [List.mem_filter,List.mem_range] at hc
  exact ⟨⟨om,om⟩,hc.2⟩
 ·rintro ⟨h1,h2⟩
  refine ⟨b.toNat,?_,om⟩
  rw [List.mem_filter,List.mem_range]
  have e:((b.toNat:Nat):Int)=b:=by omega
  exact ⟨om,by rw [e];exact h2⟩
theorem zm5 (n:Int) (c:KinType×Family):zf2 n c=Relation.mk n (zcn n.toNat fun a b=>zgd a b c.1 c.2):=zq0 n.toNat (fun a b=>zgd a b c.1 c.2) _
theorem zm6 (n:Int) (c:Relation×Relation):zim n c=Relation.mk n (zcn n.toNat fun a b=>zeg a b c.1 c.2):=zq0 n.toNat (fun a b=>zeg a b c.1 c.2) _
theorem ztv (n:Int) (c:Family×Step×(KV→Option Bool)):zhk n c=Relation.mk n (zcn n.toNat fun a b=>zd8 a b c.1 c.2.1 c.2.2):=zq0 n.toNat (fun a b=>zd8 a b c.1 c.2.1 c.2.2) _
def RelOk (n:Nat) (r:Relation):Prop:=r.rows.length≤n∧∀ y∈r.rows,y.length≤n
theorem zks {n m:Nat} (h:n≤m) (s:Int) (is:Int→Int→Bool):RelOk m (Relation.mk s (zcn n is)):=⟨by rw [show (Relation.mk s (zcn n is)).rows=zcn n is from rfl,zgc];exact h,fun y hy=>Nat.le_trans (zm7 n is hy) h⟩
def C65 (R:Relation):LV×List (Nat×BC):=(.agg [.int .i64 R.size,.own 0],[(0,.nest true 1 R.rows.length (nrOf (cInt .i64) R.rows))])
def zc5 (x0:Family) (x1:Step):Relation:=loopN (fun i1 (v1:(KV→Option Bool)) next=>bif (decide (x1.kind=7)) then (next (mset v1 (KV.p ((x0.unions.getD i1 default).woman) ((x0.unions.getD i1 default).man)) true)) else (bif (decide (x1.kind=8)) then (next (mset v1 (KV.p ((x0.unions.getD i1 default).man) ((x0.unions.getD i1 default).woman)) true)) else (next v1))) (fun (v1:(KV→Option Bool))=>(zhk ((x0.people.length:Nat):Int) (x0,x1,v1))) x0.unions.length 0 (fun _=>none)
def D65b1 (x0:Family) (x1:Step) (i1:Nat) (v1:(KV→Option Bool)):Dl:=⟨[(12,.int .i64 ((i1:Nat):Int))],[(30500,.mp .pair (.b v1)),(5,.var [.mp 30500])]⟩
def A65b1 (x0:Family) (x1:Step) (i1:Nat) (v1:(KV→Option Bool)):Ann:=r0 1 [2,3,4,5,10,11,12,13] [2,3,4,5,30500] (cn (decide (((i1:Nat):Int)<((x0.unions.length:Nat):Int))) (r1 2 [2,3,4,5,7,10,11,12,17] [2,3,4,5,7,30500] [pf (0≤(((i1:Nat):Int):Int)∧(((i1:Nat):Int):Int)<((x0.unions.length:Nat):Int))] [0] (r0 1 [2,3,4,5,7,10,11,12,17,18] [2,3,4,5,7,30500] (cn (decide (x1.kind=7)) (r0 1 [2,3,4,5,10,11,12] [2,3,4,5,30500] (r1 1 [2,3,4,5,10,11,12] [2,3,4,5,30500] [pf (inR .i64 (((i1:Nat):Int)+1))] [0] (.next 0 [(30500,some 30500)] (D65b1 x0 x1 (i1+1) (mset v1 (KV.p ((x0.unions.getD i1 default).woman) ((x0.unions.getD i1 default).man)) true))))) (r0 1 [2,3,4,5,7,10,11,12,26] [2,3,4,5,7,30500] (cn (decide (x1.kind=8)) (r0 1 [2,3,4,5,10,11,12] [2,3,4,5,30500] (r1 1 [2,3,4,5,10,11,12] [2,3,4,5,30500] [pf (inR .i64 (((i1:Nat):Int)+1))] [0] (.next 0 [(30500,some 30500)] (D65b1 x0 x1 (i1+1) (mset v1 (KV.p ((x0.unions.getD i1 default).man) ((x0.unions.getD i1 default).woman)) true))))) (r1 1 [2,3,4,5,10,11,12] [2,3,4,5,30500] [pf (inR .i64 (((i1:Nat):Int)+1))] [0] (.next 0 [(30500,some 30500)] (D65b1 x0 x1 (i1+1) v1)))))))) (.reg 1 [] [(4,k62S ((x0.people.length:Nat):Int) (x0,x1,v1))] [4] [4,1039] [] [] [] [0] (rt [(0,some 1039)] (C65 (zhk ((x0.people.length:Nat):Int) (x0,x1,v1))))))
def A65 (x0:Family) (x1:Step):Ann:=r0 2 [2,3,4,5] [2,3,4,5,8] (r0 1 [2,3,4,5,10,11,12] [2,3,4,5,8] (lp (D65b1 x0 x1) [] [8] [(30500,some 8)] (D65b1 x0 x1 0 (fun _=>none)) (A65b1 x0 x1)))
theorem zix (x0:Family) (x1:Step) (hx:x0.people.length≤1048576) (hu:x0.unions.length≤1048576):FnT Tryz.prog 65 [.agg (zbx false x0),.agg (cStep false x1)] (C65 (zc5 x0 x1)):=by
 have aux:∀ R,zc5 x0 x1=R→slim (C65 R) (A65 x0 x1) []:=by
  intro R hR
  refine rg trivial ?_
  refine rg trivial ?_
  revert hR;refine lN (fun i v=>True) zai rfl fun i1 v1 F1 hn1 hI1 hR hK1=>?_
  refine rg trivial ?_
  refine ⟨fun hc1=>?_,fun hc1=>?_⟩
  ·have hii1:i1<x0.unions.length:=by have:=of_decide_eq_true hc1;omega
   replace hR:=zbj hR hii1
   refine rg ⟨by (intros;omega),trivial⟩ ?_
   refine rg trivial ?_
   revert hR;refine cd (fun hc2 hR=>?_) fun hc2 hR=>?_
   ·
     refine rg trivial ?_
     refine rg ⟨by ( intros;simp only [inR];omega),trivial⟩ ?_
     exact hK1 (mset v1 (KV.p ((x0.unions.getD i1 default).woman) ((x0.unions.getD i1 default).man)) true) hii1 zai hR
   ·
     refine rg trivial ?_
     revert hR;refine cd (fun hc3 hR=>?_) fun hc3 hR=>?_
     ·
       refine rg trivial ?_
       refine rg ⟨by ( intros;simp only [inR];omega),trivial⟩ ?_
       exact hK1 (mset v1 (KV.p ((x0.unions.getD i1 default).man) ((x0.unions.getD i1 default).woman)) true) hii1 zai hR
     ·
       refine rg ⟨by ( intros;simp only [inR];omega),trivial⟩ ?_
       exact hK1 v1 hii1 zai hR
  ·obtain rfl:i1=x0.unions.length:=by have:=of_decide_eq_false hc1;omega
   replace hR:=zbp hR (Nat.lt_irrefl _)
   refine rg ⟨⟨by ( intros;simp only [inR];omega),by trivial⟩,trivial⟩ ?_
   exact congrArg C65 hR
 exact Fn.go 40 Tryz.func65 zah zah (by simp [C65,FrsN,nrOf,Frs,FrsL,FrsB,rowOf,cInt,cBool,cStr,cSl,zce,zbq,zb4,zbx,cDyad,cLaw,zd4,cStep,zdv,zdh]) (A65 x0 x1) zah (aux _ rfl)
def k65 (x0:Family) (x1:Step):Cl:=(hres (C65 (zc5 x0 x1)),k2 (zix x0 x1))
def C64 (R:Relation):LV×List (Nat×BC):=(.agg [.int .i64 R.size,.own 0],[(0,.nest true 1 R.rows.length (nrOf (cInt .i64) R.rows))])
def zff (x0:Relation) (x1:Relation):Relation:=bif (!(zlg x0 x1)) then (Relation.mk 0 ([]:List (List Int))) else (zim x0.size (x0,x1))
def A64 (x0:Relation) (x1:Relation):Ann:=r0 1 [2,3,4] [2,3,4] (.reg 1 [] [(2,k108 x0 x1)] [2,3,4,8] [2,3,4] [] [] [] [0] (cn (!(zlg x0 x1)) (r0 1 [2,3,4] [2,3,4] (rt [(0,none)] (C64 (Relation.mk 0 ([]:List (List Int)))))) (.reg 1 [] [(3,k62C x0.size (x0,x1))] [4] [4,1013] [] [] [] [0] (rt [(0,some 1013)] (C64 (zim x0.size (x0,x1)))))))
theorem zg9 (x0:Relation) (x1:Relation) (hx:x0.rows.length≤1048576∧∀ y∈x0.rows,y.length≤1048576) (hy:x1.rows.length≤1048576∧∀ y∈x1.rows,y.length≤1048576):FnT Tryz.prog 64 [.agg (zdh false x0),.agg (zdh false x1)] (C64 (zff x0 x1)):=by
 have aux:∀ R,zff x0 x1=R→slim (C64 R) (A64 x0 x1) []:=by
  intro R hR
  refine rg trivial ?_
  refine rg ⟨⟨by with_reducible assumption,by with_reducible assumption⟩,trivial⟩ ?_
  revert hR;refine cd (fun hc1 hR=>?_) fun hc1 hR=>?_
  ·
    refine rg trivial ?_
    exact congrArg C64 hR
  ·
    refine rg ⟨⟨by ((try clear hR);intros;(try simp only [decide_eq_true_eq,decide_eq_false_iff_not,Bool.or_eq_true,Bool.and_eq_true,zbd,za9,zba,Bool.not_eq_true',inR] at *);(repeat' apply And.intro)<;>(have h9:=zw0 zag;omega)),by (have h9:=zw0 zag;exact fun y h8=>⟨hx.2 y h8,h9.2.2.2 y h8⟩),by (exact hy.2)⟩,trivial⟩ ?_
    exact congrArg C64 hR
 exact Fn.go 14 Tryz.func64 zah zah (by simp [C64,FrsN,nrOf,Frs,FrsL,FrsB,rowOf,cInt,cBool,cStr,cSl,zce,zbq,zb4,zbx,cDyad,cLaw,zd4,cStep,zdv,zdh]) (A64 x0 x1) zah (aux _ rfl)
def k64 (x0:Relation) (x1:Relation):Cl:=(hres (C64 (zff x0 x1)),k2 (zg9 x0 x1))
theorem ztw {n:Int} {c:KinType×Family} (h:n≤1048576):RelOk 1048576 (zf2 n c):=by rw [zm5];exact zks om _ _
def zen (x:Family) (s:Step):KV→Option Bool:=loopN (fun i1 (v1:(KV→Option Bool)) next=>bif (decide (s.kind=7)) then (next (mset v1 (KV.p ((x.unions.getD i1 default).woman) ((x.unions.getD i1 default).man)) true)) else (bif (decide (s.kind=8)) then (next (mset v1 (KV.p ((x.unions.getD i1 default).man) ((x.unions.getD i1 default).woman)) true)) else (next v1))) (fun v=>v) x.unions.length 0 (fun _=>none)
theorem znx {S α : Type} (g : Nat → S → (S → α) → α) (f : Nat → S → S) (hg : ∀ i s next, g i s next = next (f i s)) (k : S → α) : ∀ m i s, loopN g k m i s = k (loopN (fun i s next => next (f i s)) (fun s => s) m i s)
  | 0,i,s=>rfl
  | m+1,i,s=>by simp only [loopN];rw [hg];exact znx g f hg k m (i+1) (f i s)
theorem zf9 (x:Family) (s:Step):zc5 x s=Relation.mk (x.people.length:Int) (zcn x.people.length fun a b=>zd8 a b x s (zen x s)):=by
 have hg:∀ {α:Type} (i:Nat) (v:KV→Option Bool) (next:(KV→Option Bool)→α),(bif (decide (s.kind=7)) then (next (mset v (KV.p ((x.unions.getD i default).woman) ((x.unions.getD i default).man)) true)) else (bif (decide (s.kind=8)) then (next (mset v (KV.p ((x.unions.getD i default).man) ((x.unions.getD i default).woman)) true)) else (next v)))=next (bif (decide (s.kind=7)) then (mset v (KV.p ((x.unions.getD i default).woman) ((x.unions.getD i default).man)) true) else (bif (decide (s.kind=8)) then (mset v (KV.p ((x.unions.getD i default).man) ((x.unions.getD i default).woman)) true) else v)):=fun i v next=>by cases decide (s.kind=7)<;>cases decide (s.kind=8)<;>rfl
 have e:zc5 x s=zhk ((x.people.length:Nat):Int) (x,s,zen x s):=by
  unfold zc5 zen
  rw [znx _ _ (fun i v next=>hg i v next),znx (fun i1 (v1:(KV→Option Bool)) next=>bif (decide (s.kind=7)) then (next (mset v1 (KV.p ((x.unions.getD i1 default).woman) ((x.unions.getD i1 default).man)) true)) else (bif (decide (s.kind=8)) then (next (mset v1 (KV.p ((x.unions.getD i1 default).man) ((x.unions.getD i1 default).woman)) true)) else (next v1))) _ (fun i v next=>hg i v next) (fun v=>v)]
 rw [e,ztv];rfl
theorem zts {x:Family} (h:x.people.length≤1048576) (s:Step):RelOk 1048576 (zc5 x s):=by rw [zf9];exact zks h _ _
theorem zwn {r s:Relation}:RelOk 1048576 (zff r s):=by
 unfold zff
 refine zbm (p:=RelOk 1048576) (fun _=>⟨Nat.zero_le _,fun y hy=>absurd hy List.not_mem_nil⟩) (fun c=>?_)
 have h:=zw0 (r:=r) (s:=s) (by simpa using c)
 rw [zm6];exact zks om _ _
theorem zya {α:Type} (l:List α) (k:Nat) (d:α) (h:k<l.length):l[k]=l.getD k d:=by rw [List.getD_eq_getElem?_getD,List.getElem?_eq_getElem h];rfl
theorem zp5 {n:Nat} (h:n≤40) (is:Int→Int→Bool):zdf (Relation.mk (n:Int) (zcn n is))=true:=by
 unfold zdf
 refine zbm (p:=fun (b:Bool)=>b=true) (fun c=>?_) (fun _=>?_)
 ·exfalso
  dsimp only at c
  simp only [zgc,Bool.or_eq_true,decide_eq_true_eq,Bool.not_eq_true',decide_eq_false_iff_not] at c
  rcases c with (c | c) | c
  ·omega
  ·omega
  ·exact c trivial
 ·refine zb3 (fun _ _=>True) (fun (b:Bool)=>b=true) trivial (fun i v next hi _ hn=>?_) (fun _ _=>rfl)
  rw [show (Relation.mk (n:Int) (zcn n is)).rows=zcn n is from rfl,zgc] at hi
  refine (zfb _ _ _).2 ⟨fun j hj=>?_,hn _ trivial⟩
  have hs : ((zcn n is).getD i default).Pairwise (· < ·) := by
   rw [zi7 n is hi,List.pairwise_map]
   exact (List.pairwise_lt_range.filter _).imp (fun {a b} h=>by omega)
  have hm:=(zdx (is:=is) hi).1 (zb0 (d:=default) hj)
  simp only [zbd,decide_eq_false_iff_not]
  refine ⟨⟨om,om⟩,?_⟩
  cases c:decide (0<((j:Nat):Int)) with
  | false=>rfl
  | true =>
   have c:=of_decide_eq_true c
   have hj:j<((zcn n is).getD i default).length:=hj
   have h1:=List.pairwise_iff_getElem.1 hs (j - 1) j om hj om
   rw [zya _ _ default,zya _ _ default] at h1
   rw [Bool.true_and,decide_eq_false_iff_not,show (((j:Nat):Int) - 1).toNat=j - 1 by omega]
   omega
theorem zte {n:Nat} (h:n≤40) (p q:Int→Int→Bool):zff (Relation.mk (n:Int) (zcn n p)) (Relation.mk (n:Int) (zcn n q))=Relation.mk (n:Int) (zcn n fun a b=>zeg a b (Relation.mk (n:Int) (zcn n p)) (Relation.mk (n:Int) (zcn n q))):=by
 unfold zff zlg
 rw [zp5 h,zp5 h,decide_eq_true rfl,zm6]
 rfl
def relIs (x : Family) (t : KinType) : Nat → Int → Int → Bool
  | 0=>fun a b=>zgd a b t x
  | i+1=>fun a b=>zeg a b (Relation.mk (x.people.length:Int) (zcn x.people.length (relIs x t i))) (zc5 x (t.steps.getD i default))
def C27 (R:Relation):LV×List (Nat×BC):=(.agg [.int .i64 R.size,.own 0],[(0,.nest true 1 R.rows.length (nrOf (cInt .i64) R.rows))])
def zhz (x0:Family) (x1:KinType):Relation:=bif ((!(zb7 x0))||(!(zd2 x1))) then (Relation.mk 0 ([]:List (List Int))) else (loopN (fun i1 (v1:Int×(List (List Int))) next=>next ((zff (Relation.mk v1.1 v1.2) (zc5 x0 (x1.steps.getD i1 default))).size,(zff (Relation.mk v1.1 v1.2) (zc5 x0 (x1.steps.getD i1 default))).rows)) (fun (v1:Int×(List (List Int)))=>(Relation.mk v1.1 v1.2)) x1.steps.length 0 ((zf2 ((x0.people.length:Nat):Int) (x1,x0)).size,(zf2 ((x0.people.length:Nat):Int) (x1,x0)).rows))
def D27b1 (x0:Family) (x1:KinType) (i1:Nat) (v1:Int×(List (List Int))):Dl:=⟨[(25,.int .i64 ((i1:Nat):Int))],[(30501,.nest true 1 v1.2.length (nrOf (cInt .i64) v1.2)),(5,.var [.int .i64 v1.1,.own 30501])]⟩
def A27b1 (x0:Family) (x1:KinType) (i1:Nat) (v1:Int×(List (List Int))):Ann:=r0 1 [2,4,5,23,24,25,26] [2,4,5,30501] (cn (decide (((i1:Nat):Int)<((x1.steps.length:Nat):Int))) (r1 1 [2,4,5,7,23,24,25] [2,4,5,7,30501] [pf (0≤(((i1:Nat):Int):Int)∧(((i1:Nat):Int):Int)<((x1.steps.length:Nat):Int))] [0] (.reg 1 [] [(3,k65 x0 (x1.steps.getD i1 default)),(4,k64 (Relation.mk v1.1 v1.2) (zc5 x0 (x1.steps.getD i1 default)))] [2,4,5,23,24,25] [2,4,5,1033] [] [] [] [0,4] (r1 1 [2,4,5,23,24,25] [2,4,5,1033] [pf (inR .i64 (((i1:Nat):Int)+1))] [0] (.next 0 [(30501,some 1033)] (D27b1 x0 x1 (i1+1) ((zff (Relation.mk v1.1 v1.2) (zc5 x0 (x1.steps.getD i1 default))).size,(zff (Relation.mk v1.1 v1.2) (zc5 x0 (x1.steps.getD i1 default))).rows)))))) (r0 1 [4] [4,30501] (rt [(0,some 30501)] (C27 (Relation.mk v1.1 v1.2)))))
def A27 (x0:Family) (x1:KinType):Ann:=r0 1 [2,3,4] [2,3,4] (.reg 1 [] [(1,k35 x0),(5,cg (!(!(zb7 x0))) (k50 x1))] [2,3,4,15] [2,3,4] [!(!(zb7 x0)),!(zb7 x0)] [] [] [0,1,4,1,6] (cn ((!(zb7 x0))||(!(zd2 x1))) (r0 1 [2,3,4] [2,3,4] (rt [(0,none)] (C27 (Relation.mk 0 ([]:List (List Int)))))) (.reg 1 [] [(4,k62F ((x0.people.length:Nat):Int) (x1,x0))] [2,3,4,5] [2,3,4,5,1021] [] [] [] [0] (r0 1 [2,4,5,23,24,25] [2,4,5,1021] (lp (D27b1 x0 x1) [] [1021] [(30501,some 1021)] (D27b1 x0 x1 0 ((zf2 ((x0.people.length:Nat):Int) (x1,x0)).size,(zf2 ((x0.people.length:Nat):Int) (x1,x0)).rows)) (A27b1 x0 x1))))))
theorem zjc (x0:Family) (x1:KinType) (hx:x0.people.length≤1048576) (hu:x0.unions.length≤1048576) (hn:∀ p∈x0.people,p.name.length≤1048576) (hs:x1.steps.length≤1048576):FnT Tryz.prog 27 [.agg (zbx false x0),.agg (zdv false x1)] (C27 (zhz x0 x1)):=by
 have aux:∀ R,zhz x0 x1=R→slim (C27 R) (A27 x0 x1) []:=by
  intro R hR
  refine rg trivial ?_
  refine rg ⟨⟨by with_reducible assumption,by with_reducible assumption,by with_reducible assumption⟩,fun hg0=>by with_reducible assumption,trivial⟩ ?_
  revert hR;refine cd (fun hc1 hR=>?_) fun hc1 hR=>?_
  ·
    refine rg trivial ?_
    exact congrArg C27 hR
  ·
    refine rg ⟨⟨by ( intros;simp only [inR];omega),by with_reducible assumption⟩,trivial⟩ ?_
    refine rg trivial ?_
    revert hR;refine lN (fun i v=>RelOk 1048576 (Relation.mk v.1 v.2)) (by (exact ztw (n:=(x0.people.length:Int)) om)) rfl fun i1 v1 F1 hn1 hI1 hR hK1=>?_
    refine rg trivial ?_
    refine ⟨fun hc2=>?_,fun hc2=>?_⟩
    · have hii1:i1<x1.steps.length:=by have:=of_decide_eq_true hc2;omega
      replace hR:=zbj hR hii1
      refine rg ⟨by (intros;omega),trivial⟩ ?_
      refine rg ⟨⟨by with_reducible assumption,by with_reducible assumption⟩,⟨by (exact hI1),by (exact zts hx _)⟩,trivial⟩ ?_
      refine rg ⟨by ( intros;simp only [inR];omega),trivial⟩ ?_
      exact hK1 ((zff (Relation.mk v1.1 v1.2) (zc5 x0 (x1.steps.getD i1 default))).size,(zff (Relation.mk v1.1 v1.2) (zc5 x0 (x1.steps.getD i1 default))).rows) hii1 (by (exact zwn (r:=Relation.mk v1.1 v1.2) (s:=zc5 x0 (x1.steps.getD i1 default)))) hR
    · obtain rfl:i1=x1.steps.length:=by have:=of_decide_eq_false hc2;omega
      replace hR:=zbp hR (Nat.lt_irrefl _)
      refine rg trivial ?_
      exact congrArg C27 hR
 exact Fn.go 36 Tryz.func27 zah zah (by simp [C27,FrsN,nrOf,Frs,FrsL,FrsB,rowOf,cInt,cBool,cStr,cSl,zce,zbq,zb4,zbx,cDyad,cLaw,zd4,cStep,zdv,zdh]) (A27 x0 x1) zah (aux _ rfl)
def k27 (x0:Family) (x1:KinType):Cl:=(hres (C27 (zhz x0 x1)),k4 (zjc x0 x1))
theorem zju {x:Family} {t:KinType} (h:za4 x=true) (ht:zd2 t=true):zhz x t=Relation.mk (x.people.length:Int) (zcn x.people.length (relIs x t t.steps.length)):=by
 have hn:=(fam_n h).1
 unfold zhz
 rw [zgj,h,ht]
 simp only [Bool.not_true,Bool.or_false,cond_false]
 refine zb3 (fun i (v:Int×List (List Int))=>Relation.mk v.1 v.2=Relation.mk (x.people.length:Int) (zcn x.people.length (relIs x t i))) (fun (r:Relation)=>r=Relation.mk (x.people.length:Int) (zcn x.people.length (relIs x t t.steps.length))) (zm5 _ _) (fun i v next hi hv hn2=>hn2 _ ?_) (fun v hv=>hv)
 show zff (Relation.mk v.1 v.2) (zc5 x (t.steps.getD i default))=_
 rw [hv,zf9,zte hn]
 show _=Relation.mk _ (zcn _ fun a b=>zeg a b _ (zc5 x (t.steps.getD i default)))
 rw [zf9]
theorem zv2 {x:Family} {t:KinType} (h:za4 x=true) (ht:zd2 t=true):(zhz x t).rows.length=x.people.length:=by rw [zju h ht];exact zgc _ _
theorem z0u {x:Family} {p:Int} {t:KinType} (h:((!(zcm x [p]))||(!(zd2 t)))=false):0≤p∧p<((zhz x t).rows.length:Nat):=by
 simp only [zbd,za9] at h
 have h1:=(ze2 x p).1 h.1
 rw [zv2 h1.1 h.2];exact h1.2
def C19 (R:(List Int)):LV×List (Nat×BC):=(.own 0,[(0,.arr 1 R.length (rowOf (cInt .i64) R))])
def relatives (x0:Family) (x1:Int) (x2:KinType):(List Int):=bif ((!(zcm x0 [x1]))||(!(zd2 x2))) then ([]:List Int) else (((zhz x0 x2).rows).getD x1.toNat [])
def A19 (x0:Family) (x1:Int) (x2:KinType):Ann:=r0 1 [1,3,5,6] [3,5] (.reg 1 [] [(2,bsC 9 (cInt .i64) ([x1]:List Int)),(3,k45 x0 [x1]),(7,cg (!(!(zcm x0 [x1]))) (k50 x2))] [1,3,5,6,16] [3,5] [!(!(zcm x0 [x1])),!(zcm x0 [x1])] [] [] [0,4,1,8,1,6] (cn ((!(zcm x0 [x1]))||(!(zd2 x2))) (r0 1 [1,3,5,6] [3,5] (rt [(0,none)] (C19 ([]:List Int)))) (.reg 1 [] [(2,k27 x0 x2),(6,nTk (cInt .i64) ((zhz x0 x2).rows) x1.toNat 23)] [6] [23] [] [pf (0≤(x1:Int)∧(x1:Int)<((((zhz x0 x2).rows).length:Nat):Int))] [] [4,0,8] (rt [(0,some 23)] (C19 (((zhz x0 x2).rows).getD x1.toNat []))))))
theorem zjb (x0:Family) (x1:Int) (x2:KinType) (hx:x0.people.length≤1048576) (hu:x0.unions.length≤1048576) (hn:∀ p∈x0.people,p.name.length≤1048576) (hs:x2.steps.length≤1048576):FnT Tryz.prog 19 [.agg (zbx false x0),.int .i64 x1,.agg (zdv false x2)] (C19 (relatives x0 x1 x2)):=by
 have aux:∀ R,relatives x0 x1 x2=R→slim (C19 R) (A19 x0 x1 x2) []:=by
  intro R hR
  refine rg trivial ?_
  refine rg ⟨trivial,⟨by with_reducible assumption,by with_reducible assumption,by with_reducible assumption,by ((simp only [List.length_cons,List.length_nil];omega))⟩,fun hg0=>by with_reducible assumption,trivial⟩ ?_
  revert hR;refine cd (fun hc1 hR=>?_) fun hc1 hR=>?_
  ·
    refine rg trivial ?_
    exact congrArg C19 hR
  ·
    refine rg ⟨by (exact z0u hc1),⟨by with_reducible assumption,by with_reducible assumption,by with_reducible assumption,by with_reducible assumption⟩,trivial,trivial⟩ ?_
    exact congrArg C19 hR
 exact Fn.go 24 Tryz.func19 zah zah (by simp [C19,Frs,FrsL,FrsB,rowOf,cInt,cBool,cStr,cSl,zce,zbq,zb4,zbx,cDyad,cLaw,zd4,cStep,zdv,zdh]) (A19 x0 x1 x2) zah (aux _ rfl)
def k19 (x0:Family) (x1:Int) (x2:KinType):Cl:=(hres (C19 (relatives x0 x1 x2)),k4 (zjb x0 x1 x2))
theorem zp9 (l:List Int) (y:Int):zob l y=true↔y∈l:=by
 unfold zob
 rw [zia]
 constructor
 ·rintro (⟨j,h1,h2⟩ | h)
  ·rw [← of_decide_eq_true h2];exact zb0 h1
  ·cases h
 ·intro h
  obtain ⟨k,h1,h2⟩:=zdk (d:=default) h
  exact .inl ⟨k,h1,decide_eq_true h2⟩
theorem zm8 (a b:Int) (r s:Relation):zeg a b r s=true↔∃ q∈r.rows.getD a.toNat default,b∈s.rows.getD q.toNat default:=by
 unfold zeg
 rw [zia]
 constructor
 ·rintro (⟨j,h1,h2⟩ | h)
  ·exact ⟨_,zb0 h1,(zp9 _ _).1 h2⟩
  ·cases h
 ·rintro ⟨q,h1,h2⟩
  obtain ⟨k,h3,h4⟩:=zdk (d:=default) h1
  exact .inl ⟨k,h3,(zp9 _ _).2 (by rw [h4];exact h2)⟩
def C54 (R:Bool):LV×List (Nat×BC):=(.bool R,[])
def zkb (x0:Int):Bool:=(decide (x0=1))||(decide (x0=2))
def A54 (x0:Int):Ann:=.reg 2 [] [] [2] [] [!(decide (x0=1)),decide (x0=1)] [] [] [1,6] (rt [] (C54 ((decide (x0=1))||(decide (x0=2)))))
theorem zrg (x0:Int):FnT Tryz.prog 54 [.int .i64 x0] (C54 (zkb x0)):=by
 have aux:∀ R,zkb x0=R→slim (C54 R) (A54 x0) []:=by
  intro R hR
  refine rg trivial ?_
  exact congrArg C54 hR
 exact Fn.go 9 Tryz.func54 zah zah (by simp [C54,Frs,FrsL]) (A54 x0) zah (aux _ rfl)
def k54 (x0:Int):Cl:=(hres (C54 (zkb x0)),k0 (zrg x0))
def OrP (n:Nat) (o:List Int):Prop:=o.Perm (upto n)
theorem OrP.len {n:Nat} {o:List Int} (h:OrP n o):o.length=n:=by rw [h.length_eq,zmi]
theorem OrP.at {n:Nat} {o:List Int} (h:OrP n o) {k:Nat} (hk:k<o.length):0≤o.getD k default∧o.getD k default<n:=mem_upto.1 (h.mem_iff.1 (zb0 hk))
theorem OrP.swap {n:Nat} {o:List Int} (h:OrP n o) {i j:Nat} (hi:i<o.length) (hj:j<o.length):OrP n ((o.set i (o.getD j default)).set j (o.getD i default)):=by
 have e:∀ k (hk:k<o.length),o.getD k default=o[k]:=fun k hk=>by rw [List.getD_eq_getElem?_getD,List.getElem?_eq_getElem hk];rfl
 rw [e i hi,e j hj]
 exact (List.set_set_perm hi hj).trans h
theorem zq8 {x:Family} {o:List Int} (h:(((!(zb7 x))||(!decide (((o.length:Nat):Int)=((x.people.length:Nat):Int))))||(!(ze6 o)))=false):za4 x=true:=by
 simp only [zbd,za9,zgj] at h;exact h.1.1
theorem zmn {x:Family} (hx:za4 x=true) {o:List Int} (h:OrP x.people.length o):(zfi x o).people.length≤1048576∧(zfi x o).unions.length≤1048576∧((∀ p∈x.people,p.name.length≤1048576)→∀ p∈(zfi x o).people,p.name.length≤1048576):=by
 have hn:=fam_n hx
 have hl:=h.len
 rw [zi8 hx h]
 refine ⟨?_,?_,fun hp p hm=>?_⟩
 ·show (o.map _).length≤_;rw [List.length_map];omega
 ·show (x.unions.map _).length≤_;rw [List.length_map];omega
 ·obtain ⟨i,hi,rfl⟩:=List.mem_map.1 hm
  have:=mem_upto.1 (h.mem_iff.1 hi)
  exact hp (x.people.getD i.toNat default) (zb0 om)
theorem zmj {x:Family} {a b s:Int} (h:((zcm x [a,b])&&(zkb s))=true):za4 x=true∧(0≤a∧a<x.people.length)∧0≤b∧b<x.people.length:=(zdz x a b).1 ((Bool.and_eq_true _ _).mp h).1
end Go.Proofs.YtaageiiodlfeiaaGreat
