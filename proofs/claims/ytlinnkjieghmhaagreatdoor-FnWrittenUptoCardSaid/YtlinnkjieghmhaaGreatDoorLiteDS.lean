/- The operations of LiteD are sound. Conditions: none; over any program. -/
import Derived.Test.YtlinnkjieghmhaaGreatDoorLiteD
set_option linter.unusedVariables false
set_option linter.unusedSimpArgs false
namespace Go.Lite
open Go Go.RowKit

section
variable {w:World} {B:Nat} {X:Nat→Prop} {E:Env} {v:Value}
theorem zoj {lv:LV} (h1:isOne lv=true) (h:RepV w B X E lv v):v.oneCell'=true∧v.cells=#[v]:=by
 cases h with
 | c _ _ h=>cases h<;>first | (simp [isOne] at h1;done) | exact ⟨rfl,rfl⟩ | (rename_i b hb0 hb1;cases b with | false=>(have e:=hb0 rfl;subst e;exact ⟨rfl,rfl⟩) | true=>(obtain ⟨t,u,rfl⟩:=hb1 rfl;exact ⟨rfl,rfl⟩))
 | vp=>exact ⟨rfl,rfl⟩
 | own=>exact ⟨rfl,rfl⟩
 | ap=>exact ⟨rfl,rfl⟩
 | mp=>exact ⟨rfl,rfl⟩
 | clo=>exact ⟨rfl,rfl⟩
 | agg=>simp [isOne] at h1
 | tup=>simp [isOne] at h1
 | whn=>simp [isOne] at h1
 | ifc=>exact ⟨rfl,rfl⟩

theorem zjj {lv : LV} {cs : List LV} (h : zmw lv = some cs) (hr : RepV w B X E lv v) :
    v.cells.size=cs.length∧(∀ (j:Nat) x u,cs[j]?=some x→v.cells[j]?=some u→RepV w B X E x u)∧(∀ x∈cs,isOne x=true)∧(∀ x∈cs,∀ id,Ment x id→Ment lv id):=by
 unfold zmw at h
 split at h
 ·rename_i l
  cases ha:l.all isOne with
  | false=>rw [ha] at h;cases h
  | true =>
   rw [ha] at h
   simp only [cond_true,Option.some.injEq] at h
   subst h
   obtain ⟨vs,rfl,hl,hh⟩:=hr.agg_inv
   exact ⟨hl,hh,fun x hx=>List.all_eq_true.1 ha x hx,fun x hx id hm=>.agg l x id hx hm⟩
 ·cases h
 ·cases h
 ·rename_i h1 h2 h3
  cases h
  have ho:isOne lv=true:=by cases lv<;>first | rfl | exact absurd rfl (h1 _) | exact absurd rfl (h2 _) | exact absurd rfl (h3 _ _)
  obtain ⟨_,hc⟩:=zoj ho hr
  rw [hc]
  refine ⟨rfl,fun j x u hx hu=>?_,fun x hx=>by simp at hx;subst hx;exact ho,fun x hx id hm=>by simp at hx;subst hx;exact hm⟩
  cases j with
  | zero=>simp at hx hu;subst hx;subst hu;exact hr
  | succ j=>simp at hx

theorem zlx (l:List LV) (off:Nat) (xs:List LV) (j:Nat) (hl:off+xs.length≤l.length):(zen l off xs)[j]?=if off≤j∧j<off+xs.length then xs[j - off]? else l[j]?:=by
 unfold zen
 have ht:(l.take off).length=off:=by simp;omega
 by_cases h1:j<off
 ·rw [List.getElem?_append_left om,List.getElem?_take,if_pos h1,if_neg om]
 ·rw [List.getElem?_append_right om,ht]
  by_cases h2:j<off+xs.length
  ·rw [List.getElem?_append_left om,if_pos ⟨om,h2⟩]
  ·rw [List.getElem?_append_right om,if_neg om,List.getElem?_drop]
   congr 1
   omega
theorem ze5 (l:List LV) (off:Nat) (xs:List LV) (hl:off+xs.length≤l.length):(zen l off xs).length=l.length:=by
 unfold zen
 simp
 omega

theorem zhd (cur : List Value) (off : Nat) (xs : List Value) (j : Nat) (hl : off + xs.length ≤ cur.length) :
    (cur.take off++xs++cur.drop (off+xs.length))[j]?=if off≤j∧j<off+xs.length then xs[j - off]? else cur[j]?:=by
 have ht:(cur.take off).length=off:=by simp;omega
 by_cases h1:j<off
 ·rw [List.append_assoc,List.getElem?_append_left om,List.getElem?_take,if_pos h1,if_neg om]
 ·rw [List.append_assoc,List.getElem?_append_right om,ht]
  by_cases h2:j<off+xs.length
  ·rw [List.getElem?_append_left om,if_pos ⟨om,h2⟩]
  ·rw [List.getElem?_append_right om,if_neg om,List.getElem?_drop]
   congr 1
   omega
end

section mop
variable {P:Program} {N:Nat} {w0:World} {X0:Fr} {σ:FS} {E:Env} {a:Act} {w:World}

def MOk (P:Program) (N:Nat) (w0:World) (X0:Fr) (σ:FS) (a:Act) (w:World) (o:Oper) (D:MD):Prop :=
 ∀ (K : Act → World → Prop) (Q : Exit → Act → World → Prop), (∀ v w' E', Sat N w0 X0 (σ.upd D.K D.ub) E' a w' → (D.dst = none → v = undef) →
     (∀ lv,D.dst=some lv→RepV w' w0.heap.size (Own (σ.upd D.K D.ub) E' X0) E' lv v∧∀ id,Ment lv id→(σ.upd D.K D.ub).used id=true)→K (a.put o.dst v) w')→o.wp P a w K Q

theorem zd3 {o:Oper} {v:Value} {w':World} (h:(execOp a.eval o).run P w=.ok (.value v) w') {K:Act→World→Prop} {Q:Exit→Act→World→Prop} (hk:K (a.put o.dst v) w'):o.wp P a w K Q:=by
 unfold Oper.wp
 rw [h]
 exact hk
theorem zrc {o:Oper} {w':World} (h:(execOp a.eval o).run P w=.ok .skip w') {K:Act→World→Prop} {Q:Exit→Act→World→Prop} (hk:K (a.put o.dst undef) w'):o.wp P a w K Q:=by
 unfold Oper.wp
 rw [h]
 exact hk

theorem zqo (hs : Sat N w0 X0 σ E a w) {o : Oper} {d : Nat} {T : TypeId} {vs : Array Value} {cs : List LV} (hrun : (execOp a.eval o).run P w = .ok (.value (.pointer (some ⟨w.heap.size, 0, none⟩))) (w.alloc (.cells vs T)))
    (hi:σ.used d=false) (hl:vs.size=cs.length) (hr:∀ (j:Nat) x u,cs[j]?=some x→vs[j]?=some u→RepV w w0.heap.size (Own σ E X0) E x u) (hm:∀ x∈cs,∀ id,Ment x id→σ.used id=true) (nw:List Nat) (p:List Prop) :
    MOk P N w0 X0 σ a w o ⟨some (.vp d 0),noK,oneB d (.var cs),nw,p⟩:=by
 intro K Q hk
 obtain ⟨E',h1,h2⟩:=hs.newVar hi vs T cs hl hr hm
 refine zd3 hrun (hk _ _ E' h2 (fun h=>by cases h) fun lv hlv=>?_)
 cases hlv
 exact ⟨.vp d 0 w.heap.size h1,fun id hmm=>by cases hmm;simp [FS.upd,oneB]⟩

theorem zew {T:Nat} {cs:List LV} (h:zeroL P T=some cs):∃ i z,P.info? T=some i∧i.zero=some z∧z.cells.size=cs.length∧∀ {w:World} {B:Nat} {X:Nat→Prop} (j:Nat) x u,cs[j]?=some x→z.cells[j]?=some u→RepC w B X x u:=by
 unfold zeroL at h
 split at h
 ·rename_i i hi
  split at h
  ·rename_i z hz
   refine ⟨i,z,hi,hz,?_,fun {w} {B} {X} j x u hx hu=>?_⟩
   ·have:=(zi8 (w:=default) (B:=0) (X:=fun _=>False) h).1
    simpa using this
   ·exact (zi8 (w:=w) (B:=B) (X:=X) h).2 j x u hx (by simpa using hu)
  ·cases h
 ·cases h

theorem zql : ∀ {vs : List Value} {l : List LV}, zmn vs = some l → ∀ x ∈ l, isOne x = true
  | [],l,h,x,hx=>by cases h;simp at hx
  | v :: r,l,h,x,hx=>by
    simp only [zmn] at h
    split at h
    · rename_i y ys h1 h2
      cases h
      rcases List.mem_cons.1 hx with hx | hx
      · subst hx
        unfold ofVal at h1
        split at h1<;>cases h1<;>rfl
      · exact zql h2 x hx
    · cases h
theorem znu {T:Nat} {cs:List LV} (h:zeroL P T=some cs):∀ x∈cs,isOne x=true:=by
 unfold zeroL at h
 split at h
 ·split at h
  ·exact zql h
  ·cases h
 ·cases h
theorem zfn {b:Nat} {cs:Array Value} (hb:Below w0.heap.size w0 w) (h:w0.heap.size≤b):Below w0.heap.size w0 (w.setRow b cs) :=
 hb.trans ⟨rfl,rfl,rfl,by simp,fun k hk=>setRow_other w b k cs om⟩

theorem zrv (hs : Sat N w0 X0 σ E a w) {o : Oper} {T : Nat} {x y : Operand} (ho : o.op = .store T x y) (hd : o.dst = none) {id off n : Nat} {cs vs : List LV} {v : LV}
    (hx:RepV w w0.heap.size (Own σ E X0) E (.vp id off) (a.eval x)) (hy:RepV w w0.heap.size (Own σ E X0) E v (a.eval y)) (hym:∀ i,Ment v i→σ.used i=true) (hz:szOf P T=some n)
    (hb:σ.blk id=some (.var cs)) (hv:zmw v=some vs) (hn:vs.length=n) (hle:off+n≤cs.length) (p:List Prop) :
    MOk P N w0 X0 σ a w o ⟨none,noK,oneB id (.var (zen cs off vs)),[],p⟩:=by
 intro K Q hk
 obtain ⟨c1,c2,c3,c4⟩:=zjj hv hy
 obtain ⟨b,g1,g2⟩:=hx.vp_inv
 obtain ⟨b',us,T',k1,k2,k3,k4,k5⟩:=hs.blks id _ hb
 rw [g1] at k1;cases k1
 have hcells:∀ u∈(a.eval y).cells.toList,u.oneCell'=true:=fun u hu=>by
  obtain ⟨j,hj,e⟩:=List.getElem_of_mem hu
  have hj':j<vs.length:=by simpa [c1] using hj
  have hju:(a.eval y).cells[j]?=some u:=by
   rw [← Array.getElem?_toList,List.getElem?_eq_getElem hj,e]
  exact (zoj (c3 _ (List.getElem_mem hj')) (c2 j vs[j] u (List.getElem?_eq_getElem hj') hju)).1
 have hlen:(a.eval y).cells.toList.length=n:=by simp [c1,hn]
 have hfit:off+0+(a.eval y).cells.toList.length≤us.size:=by rw [hlen,k4];omega
 have hst:=run_storeCells_at P b off T' (a.eval y).cells.toList 0 us w k3 hfit hcells
 have hrun:(execOp a.eval o).run P w=.ok .skip (w.setRow b (us.toList.take (off+0)++(a.eval y).cells.toList++us.toList.drop (off+0+(a.eval y).cells.toList.length)).toArray):=by
  simp only [execOp,ho,Sem.run_bind,g2,Instr.storeAt,Instr.sureAddr,Sem.run_pure,Result.andThen_ok,storeVar,zds hz,c1,hn,ne_eq,not_true_eq_false,if_false,hst]
 have hgetv:∀ j:Nat,(us.toList.take (off+0)++(a.eval y).cells.toList++us.toList.drop (off+0+(a.eval y).cells.toList.length)).toArray[j]?=if off≤j∧j<off+n then (a.eval y).cells[j - off]? else us[j]?:=fun j=>by
  simp only [List.getElem?_toArray,Nat.add_zero]
  rw [zhd _ _ _ _ (by simp;omega),hlen]
  split<;>simp
 generalize (us.toList.take (off+0)++(a.eval y).cells.toList++us.toList.drop (off+0+(a.eval y).cells.toList.length)).toArray=news at hrun hgetv
 have hsz:news.size=us.size:=by
  have h1:=hgetv us.size
  have h2:=fun hlt:us.size - 1<us.size=>hgetv (us.size - 1)
  rcases Nat.lt_trichotomy news.size us.size with h | h | h
  ·have h3:=hgetv news.size
   rw [Array.getElem?_eq_none (Nat.le_refl _)] at h3
   split at h3
   ·rw [Array.getElem?_eq_getElem om] at h3;cases h3
   ·rw [Array.getElem?_eq_getElem h] at h3;cases h3
  ·exact h
  ·rw [Array.getElem?_eq_getElem h] at h1
   split at h1
   ·omega
   ·rw [Array.getElem?_eq_none (Nat.le_refl _)] at h1;cases h1
 have hown:∀ b',Own (σ.upd noK (oneB id (.var (zen cs off vs)))) (E.setF (one id (.var (zen cs off vs)) (E id))) X0 b'→Own σ E X0 b':=fun b'' hbo=>by
  rcases zgj zzo hbo with hq | hq
  ·exact hq
  ·exact .inr ⟨id,.inl ⟨by rw [hb];simp,hq⟩⟩
 have hE:∀ i,(E.setF (one id (.var (zen cs off vs)) (E id))) i=E i:=fun i=>by
  by_cases e:i=id
  ·subst e;simp [Env.setF,one]
  ·simp [Env.setF,one,e]
 have hkeep:∀ b',b'<w.heap.size→¬ Own σ E X0 b'→(w.setRow b news).heap[b']?=w.heap[b']?:=fun b' _ hno=>setRow_other w b b' news (fun e=>hno (.inr ⟨id,.inl ⟨by rw [hb];simp,by rw [e];exact g1⟩⟩))
 refine zrc hrun (hk undef _ (E.setF (one id (.var (zen cs off vs)) (E id))) ?_ (fun _=>rfl) fun lv h=>by cases h)
 rw [← zdd id (.var (zen cs off vs)) (E id),← FS.setF_eq]
 refine hs.set noK id _ (E id) (.inr ⟨rfl, by rw [hb]; simp⟩) zas (fun b' hb' hno => setRow_other w b b' news fun e => hno id (.inl rfl) (by rw [hb]; simp) (by rw [e]; exact g1)) (fun b' hb' => .inr ⟨id, .inl rfl, by rw [hb]; simp, hb'⟩)
   (zfn hs.below k2) (fun cells lv i hc hlv hm=>?_) ?_
 ·cases hc
  right
  have:lv∈cs∨lv∈vs:=by
   unfold zen at hlv
   rcases List.mem_append.1 hlv with h | h
   ·exact .inl (List.mem_of_mem_take h)
   ·rcases List.mem_append.1 h with h | h
    ·exact .inr h
    ·exact .inl (List.mem_of_mem_drop h)
  rcases this with h | h
  ·exact hs.wfb id cs lv i hb h hm
  ·exact hym i (c4 lv h i hm)
 ·refine ⟨b,news,T',by rw [hE];exact g1,k2,setRow_heap w b us news T' (0,0) k3,by rw [ze5 _ _ _ om,hsz,k4],fun j lv u hj hu=>?_⟩
  rw [zlx _ _ _ _ om,hn] at hj
  rw [hgetv] at hu
  rw [FS.setF_eq,zdd]
  refine RepV.keep (X:=Own σ E X0) (E:=E) (w:=w) ?_ zas hkeep (fun b' hb'=>.inl (hown b' hb')) fun i _=>hE i
  by_cases hc:off≤j∧j<off+n
  ·rw [if_pos hc] at hj hu;exact c2 _ lv u hj hu
  ·rw [if_neg hc] at hj hu;exact k5 j lv u hj hu

theorem zr4 (hs : Sat N w0 X0 σ E a w) {X' : Nat → Prop} (h1 : ∀ b, X' b → Own σ E X0 b) {v x : LV} {is : List Nat} (hf : frz σ.blk v = some (x, is))
    (h2:∀ k∈is,∀ b,(E k).b=some b→¬ X' b) {u:Value} (hr:RepV w w0.heap.size (Own σ E X0) E v u):RepC w w0.heap.size X' x u:=by
 unfold frz at hf
 split at hf
 ·rename_i id
  split at hf
  ·rename_i sz n row hb
   cases hf
   have e:=hr.own_inv
   subst e
   obtain ⟨hn,hk⟩:=hs.blks id _ hb
   rcases hk with ⟨_,k2,k3⟩ | ⟨b,cap,vs,T',k1,k2,k3,k4,k5,k6,k7,k8⟩
   ·subst k3
    rw [k2]
    exact .ro true sz 0 _ none ⟨0, 0, none⟩ 0 (fun _ _ => undef) (Nat.le_refl _) (fun h => absurd h om) (fun h => absurd h om) (fun h => absurd h om) (fun h => absurd h om)
      (fun i hi=>absurd hi om) (fun i hi=>absurd hi om) (fun i j hi=>absurd hi om) fun i j lv hi=>absurd hi om
   ·rw [k2]
    have hbd:∀ i j,i<n→j<sz→(E id).off+i * sz+j<vs.size:=fun i j hi hj=>by
     have h1:i * sz+sz≤cap * sz:=by rw [← Nat.succ_mul];exact Nat.mul_le_mul_right sz om
     omega
    refine .ro true sz n _ (some ⟨b, (E id).off, none⟩) ⟨b, (E id).off, none⟩ cap (fun i j => vs.getD ((E id).off + i * sz + j) undef) k5 (fun _ => rfl) (fun _ => (Array.getElem?_eq_some_iff.1 k4).1) (fun _ => h2 id zas b k1)
      (fun _ _=>k3) (fun i hi=>(k8 i hi).1) (fun i hi=>(k8 i hi).2.1) (fun i j hi hj=>?_) fun i j lv hi hl=>?_
    ·rw [zc1,← Nat.add_assoc]
     have:=hbd i j hi hj
     simp [World.cell?,k4,this]
    ·have hj:j<sz:=by
      rw [← (k8 i hi).1]
      exact (List.getElem?_eq_some_iff.1 hl).1
     have:=hbd i j hi hj
     exact ((k8 i hi).2.2 j lv (vs.getD ((E id).off+i * sz+j) undef) hl (by simp [this])).keep (Nat.le_refl _) (fun _ _ _=>rfl) (fun b' hb'=>.inl (h1 b' hb')) (Nat.le_refl _)
  ·cases hf
 ·cases hf;rw [hr.int_inv];exact .int _ _
 ·cases hf;rw [hr.bool_inv];exact .bool _
 ·cases hf;rw [hr.str_inv];exact .str _
 ·cases hf;exact hr.ro_inv.keep (Nat.le_refl _) (fun _ _ _=>rfl) (fun b hb=>.inl (h1 b hb)) (Nat.le_refl _)
 ·cases hf;rw [hr.nilS_inv];exact .nilS
 ·cases hf;rw [hr.nilM_inv];exact .nilM
 ·cases hf;rw [hr.nilP_inv];exact .nilP
 ·cases hf;rw [hr.fn_inv];exact .fn _
 ·cases hf

theorem zno (hs : Sat N w0 X0 σ E a w) {X' : Nat → Prop} (h1 : ∀ b, X' b → Own σ E X0 b) : ∀ {vs xs : List LV} {is : List Nat}, frzL σ.blk vs = some (xs, is) →
    (∀ k∈is,∀ b,(E k).b=some b→¬ X' b)→xs.length=vs.length∧∀ (j:Nat) x,xs[j]?=some x→∃ y,vs[j]?=some y∧∀ u,RepV w w0.heap.size (Own σ E X0) E y u→RepC w w0.heap.size X' x u
 | [],xs,is,h,_=>by cases h;exact ⟨rfl,fun j x hx=>by simp at hx⟩
 | v :: r,xs,is,h,h2=>by
  simp only [frzL] at h
  split at h
  ·rename_i x i ys js g1 g2
   cases h
   obtain ⟨k1,k2⟩:=zno hs h1 g2 (fun k hk=>h2 k (List.mem_append.2 (.inr hk)))
   refine ⟨by simp [k1],fun j z hz=>?_⟩
   cases j with
   | zero=>simp at hz;subst hz;exact ⟨v,by simp,fun u hu=>zr4 hs h1 g1 (fun k hk=>h2 k (List.mem_append.2 (.inl hk))) hu⟩
   | succ j=>simpa using k2 j z (by simpa using hz)
  ·cases h
theorem zlf : ∀ {vs xs : List LV} {is : List Nat}, frzL σ.blk vs = some (xs, is) → ∀ k ∈ is, ∃ sz n row, σ.blk k = some (.arr sz n row)
  | [],xs,is,h,k,hk=>by cases h;simp at hk
  | v :: r,xs,is,h,k,hk=>by
    simp only [frzL] at h
    split at h
    · rename_i x i ys js g1 g2
      cases h
      rcases List.mem_append.1 hk with hk | hk
      · unfold frz at g1
        split at g1<;>(try (split at g1))<;>cases g1<;>simp at hk
        subst hk
        exact ⟨_,_,_,by assumption⟩
      · exact zlf g2 k hk
    · cases h

theorem zr5 : ∀ {vs xs : List LV} {is : List Nat}, frzL σ.blk vs = some (xs, is) → ∀ x ∈ xs, isOne x = true
  | [],xs,is,h,x,hx=>by cases h;simp at hx
  | v :: r,xs,is,h,x,hx=>by
    simp only [frzL] at h
    split at h
    · rename_i y i ys js g1 g2
      cases h
      rcases List.mem_cons.1 hx with hx | hx
      · subst hx
        unfold frz at g1
        split at g1<;>(try (split at g1))<;>cases g1<;>rfl
      · exact zr5 g2 x hx
    · cases h
theorem killL_mem {l:List Nat} {j:Nat}:killL l j=true↔j∈l:=by
 unfold killL
 rw [List.any_eq_true]
 constructor
 ·rintro ⟨x,hx,he⟩;have:=Nat.eq_of_beq_eq_true he;subst this;exact hx
 ·intro h;exact ⟨j,h,by simp⟩

theorem zgv (hs : Sat N w0 X0 σ E a w) {ks : List Nat} {d : Nat} {c : BC} {ei : EI} (hc : ¬ Mul (some c)) (hd : d ∉ ks) (hei : (σ.blk d ≠ none ∧ ei = E d) ∨ ∃ b', ei.b = some b' ∧ w.heap.size ≤ b')
    {k:Nat} (hk:k∈ks) {b:Nat} (hb:OwnAt σ.blk E k b):¬ Own (σ.upd (killL ks) (oneB d c)) (E.setF (one d c ei)) X0 b:=by
 have hlt:=hs.olt hb
 rintro (h | ⟨j,hj⟩)
 ·exact hs.xneA h hb
 ·by_cases e:j=d
  ·subst e
   have hjb:ei.b=some b:=by
    rcases hj with ⟨_,hj⟩ | ⟨hm,_⟩
    ·simpa [Env.setF,one] using hj
    ·exact absurd (by simpa [FS.upd,oneB] using hm) hc
   rcases hei with ⟨h1,rfl⟩ | ⟨b',h1,h2⟩
   ·have:=hs.injA j k b (.inl ⟨h1,hjb⟩) hb
    subst this
    exact hd hk
   ·rw [hjb] at h1;cases h1;omega
  ·have hbk:(σ.upd (killL ks) (oneB d c)).blk j=if killL ks j=true then none else σ.blk j:=by simp [FS.upd,oneB,e]
   cases hkj:killL ks j with
   | true=>rw [hkj] at hbk;exact hj.ne hbk
   | false =>
    rw [hkj] at hbk
    have hj':OwnAt σ.blk E j b:=by
     have hE:(E.setF (one d c ei)) j=E j:=by simp [Env.setF,one,e]
     have hS:(E.setF (one d c ei)).s j=E.s j:=by simp [Env.setF,one,e]
     rcases hj with ⟨h1,h2⟩ | ⟨h1,h2⟩
     ·rw [hbk] at h1;rw [hE] at h2;exact .inl ⟨h1,h2⟩
     ·rw [hbk] at h1;rw [hS] at h2;exact .inr ⟨h1,h2⟩
    have:=hs.injA j k b hj' hb
    subst this
    rw [killL_mem.2 hk] at hkj;cases hkj

theorem zs9 (hs : Sat N w0 X0 σ E a w) {o : Oper} {T : Nat} {x y : Operand} (ho : o.op = .store T x y) {id sz i off n m : Nat} {row row' : Nat → List LV} {vs xs : List LV} {ks : List Nat} {v : LV}
    (hx:RepV w w0.heap.size (Own σ E X0) E (.ap id sz i off) (a.eval x)) (hy:RepV w w0.heap.size (Own σ E X0) E v (a.eval y)) (hz:szOf P T=some n)
    (hb:σ.blk id=some (.arr sz m row)) (hv:zmw v=some vs) (hf:frzL σ.blk vs=some (xs,ks)) (hn:xs.length=n) (hle:off+n≤sz) (hki:killL ks id=false)
    (hrow:∀ k,k<m→row' k=bif Nat.beq k i then zen (row k) off xs else row k) (p:List Prop) :
    MOk P N w0 X0 σ a w o ⟨none,killL ks,oneB id (.arr sz m row'),[],p⟩:=by
 intro K Q hk
 obtain ⟨c1,c2,c3,c4⟩:=zjj hv hy
 have hxl:=(zno hs (X':=fun b=>Own σ E X0 b∧∀ k∈ks,(E k).b≠some b) (fun b hb=>hb.1) hf (fun k hk b hkb hb=>hb.2 k hk hkb)).1
 obtain ⟨b,g1,gi,g2⟩:=hx.ap_inv
 obtain ⟨hnn,hkk⟩:=hs.blks id _ hb
 rw [hnn] at gi
 rcases hkk with ⟨k1,_⟩ | ⟨b',cap,us,T',k1,k2,k3,k4,k5,k6,k7,k8⟩
 ·rw [g1] at k1;cases k1
 rw [g1] at k1;cases k1
 have hcells:∀ u∈(a.eval y).cells.toList,u.oneCell'=true:=fun u hu=>by
  obtain ⟨j,hj,e⟩:=List.getElem_of_mem hu
  have hj':j<vs.length:=by simpa [c1] using hj
  have hju:(a.eval y).cells[j]?=some u:=by
   rw [← Array.getElem?_toList,List.getElem?_eq_getElem hj,e]
  exact (zoj (c3 _ (List.getElem_mem hj')) (c2 j vs[j] u (List.getElem?_eq_getElem hj') hju)).1
 have hlen:(a.eval y).cells.toList.length=n:=by simp [c1];omega
 have hibd:(E id).off+i * sz+sz≤us.size:=by
  have h1:i * sz+sz≤cap * sz:=by rw [← Nat.succ_mul];exact Nat.mul_le_mul_right sz om
  omega
 have hfit:(E id).off+i * sz+off+0+(a.eval y).cells.toList.length≤us.size:=by rw [hlen];omega
 have hst:=run_storeCells_at P b ((E id).off+i * sz+off) T' (a.eval y).cells.toList 0 us w k4 hfit hcells
 have hgetv : ∀ j : Nat, (us.toList.take ((E id).off + i * sz + off + 0) ++ (a.eval y).cells.toList ++ us.toList.drop ((E id).off + i * sz + off + 0 + (a.eval y).cells.toList.length)).toArray[j]? =
     if (E id).off+i * sz+off≤j∧j<(E id).off+i * sz+off+n then (a.eval y).cells[j - ((E id).off+i * sz+off)]? else us[j]?:=fun j=>by
  simp only [List.getElem?_toArray,Nat.add_zero]
  rw [zhd _ _ _ _ (by simp at hfit ⊢;omega),hlen]
  split<;>simp
 have hszn:(us.toList.take ((E id).off+i * sz+off+0)++(a.eval y).cells.toList++us.toList.drop ((E id).off+i * sz+off+0+(a.eval y).cells.toList.length)).toArray.size=us.size:=by
  simp at hfit ⊢;omega
 have hrun:(execOp a.eval o).run P w=.ok .skip (w.setRow b (us.toList.take ((E id).off+i * sz+off+0)++(a.eval y).cells.toList++us.toList.drop ((E id).off+i * sz+off+0+(a.eval y).cells.toList.length)).toArray):=by
  have hc1:(a.eval y).cells.size=n:=by omega
  simp only [execOp,ho,Sem.run_bind,g2,Instr.storeAt,Instr.sureAddr,Sem.run_pure,Result.andThen_ok,storeVar,zds hz,hc1,ne_eq,not_true_eq_false,if_false,hst]
 generalize (us.toList.take ((E id).off+i * sz+off+0)++(a.eval y).cells.toList++us.toList.drop ((E id).off+i * sz+off+0+(a.eval y).cells.toList.length)).toArray=news at hrun hgetv hszn
 have hE:∀ j,(E.setF (one id (.arr sz m row') (E id))) j=E j:=fun j=>by
  by_cases e:j=id
  ·subst e;simp [Env.setF,one]
  ·simp [Env.setF,one,e]
 have hbid:σ.blk id≠none:=by rw [hb];simp
 have hidk:id ∉ ks:=fun h=>by rw [killL_mem.2 h] at hki;cases hki
 have hown:∀ b',Own (σ.upd (killL ks) (oneB id (.arr sz m row'))) (E.setF (one id (.arr sz m row') (E id))) X0 b'→Own σ E X0 b':=fun b'' hbo=>by
  rcases zgj zgd hbo with hq | hq
  ·exact hq
  ·exact .inr ⟨id,.inl ⟨hbid,hq⟩⟩
 have hidown:Own (σ.upd (killL ks) (oneB id (.arr sz m row'))) (E.setF (one id (.arr sz m row') (E id))) X0 b:=.inr ⟨id,.inl ⟨by simp [FS.upd,oneB],by rw [hE];exact g1⟩⟩
 have hkeep:∀ b',b'<w.heap.size→¬ Own (σ.upd (killL ks) (oneB id (.arr sz m row'))) (E.setF (one id (.arr sz m row') (E id))) X0 b'→(w.setRow b news).heap[b']?=w.heap[b']?:=fun b' _ hno=>setRow_other w b b' news (fun e=>hno (by rw [e];exact hidown))
 have hfr:=(zno hs hown hf (fun k hk b'' hkb=>zgv hs zgd hidk (.inl ⟨hbid,rfl⟩) hk (.inl ⟨by obtain ⟨_,_,_,hl⟩:=zlf hf k hk;rw [hl];simp,hkb⟩))).2
 refine zrc hrun (hk undef _ (E.setF (one id (.arr sz m row') (E id))) ?_ (fun _=>rfl) fun lv h=>by cases h)
 rw [← zdd id (.arr sz m row') (E id),← FS.setF_eq]
 refine hs.set (killL ks) id _ (E id) (.inr ⟨rfl, hbid⟩) zas (fun b' hb' hno => setRow_other w b b' news fun e => hno id (.inl rfl) hbid (by rw [e]; exact g1)) (fun b' hb' => .inr ⟨id, .inl rfl, hbid, hb'⟩)
   (zfn hs.below k3) (fun cells lv j hc hlv hm=>by cases hc) ?_
 rw [FS.setF_eq,zdd]
 refine ⟨by rw [hE];exact hnn,.inr ⟨b,cap,news,T',by rw [hE];exact g1,by rw [hE];exact k2,k3,setRow_heap w b us news T' (0,0) k4,k5,k6,by rw [hE,hszn];exact k7,fun k hk=>?_⟩⟩
 rw [hrow k hk,hE]
 obtain ⟨hl1,hl3,hl2⟩:=k8 k hk
 by_cases e:k=i
 ·subst e
  have hbq:Nat.beq k k=true:=by simp
  rw [hbq,cond_true]
  refine ⟨by rw [ze5 _ _ _ om];exact hl1,fun lv hlv=>?_,fun j lv u hj hu=>?_⟩
  ·unfold zen at hlv
   rcases List.mem_append.1 hlv with h | h
   ·exact hl3 lv (List.mem_of_mem_take h)
   ·rcases List.mem_append.1 h with h | h
    ·exact zr5 hf lv h
    ·exact hl3 lv (List.mem_of_mem_drop h)
  rw [zlx _ _ _ _ om,hn] at hj
  rw [hgetv] at hu
  by_cases hc:off≤j∧j<off+n
  ·rw [if_pos hc] at hj
   rw [if_pos om,show (E id).off+k * sz+j - ((E id).off+k * sz+off)=j - off from by omega] at hu
   obtain ⟨y',hy1,hy2⟩:=hfr (j - off) lv hj
   exact (hy2 u (c2 (j - off) y' u hy1 hu)).keep zas hkeep (fun b' hb'=>.inl hb') (Nat.le_refl _)
  ·rw [if_neg hc] at hj
   have hjs:j<sz:=by rw [← hl1];exact (List.getElem?_eq_some_iff.1 hj).1
   rw [if_neg om] at hu
   exact (hl2 j lv u hj hu).keep zas (fun b' h1 h2=>setRow_other w b b' news fun e=>h2 (.inr ⟨id,.inl ⟨hbid,by rw [e];exact g1⟩⟩)) (fun b' hb'=>.inl (hown b' hb')) (Nat.le_refl _)
 ·have hbq:Nat.beq k i=false:=by
   cases h:Nat.beq k i with
   | false=>rfl
   | true=>exact absurd (Nat.eq_of_beq_eq_true h) e
  rw [hbq,cond_false]
  refine ⟨hl1,hl3,fun j lv u hj hu=>?_⟩
  have hjs:j<sz:=by rw [← hl1];exact (List.getElem?_eq_some_iff.1 hj).1
  have hfar:¬ ((E id).off+i * sz+off≤(E id).off+k * sz+j∧(E id).off+k * sz+j<(E id).off+i * sz+off+n):=by
   rcases Nat.lt_or_gt_of_ne e with h | h
   ·have h1:k * sz+sz≤i * sz:=by rw [← Nat.succ_mul];exact Nat.mul_le_mul_right sz h
    omega
   ·have h1:i * sz+sz≤k * sz:=by rw [← Nat.succ_mul];exact Nat.mul_le_mul_right sz h
    omega
  rw [hgetv,if_neg hfar] at hu
  exact (hl2 j lv u hj hu).keep zas (fun b' h1 h2=>setRow_other w b b' news fun e=>h2 (.inr ⟨id,.inl ⟨hbid,by rw [e];exact g1⟩⟩)) (fun b' hb'=>.inl (hown b' hb')) (Nat.le_refl _)

theorem zqp (hs : Sat N w0 X0 σ E a w) {o : Oper} {d : Nat} {T : TypeId} {vs : Array Value} {sz n cap : Nat} {row : Nat → List LV} {w1 : World} (hb1 : Below w.heap.size w w1)
    (hrun:(execOp a.eval o).run P w=.ok (.value (.slice (some ⟨w1.heap.size,0,none⟩) n cap)) (w1.alloc (.cells vs T)))
    (hi:σ.used d=false) (hn:n≤cap) (hcap:cap≤maxLen) (hl:cap * sz≤vs.size) (hsz:∀ k,k<n→(row k).length=sz) (ho1:∀ k,k<n→∀ lv∈row k,isOne lv=true)
    (hr:∀ k,k<n→∀ (j:Nat) lv v,(row k)[j]?=some lv→vs[k * sz+j]?=some v→RepC w1 w0.heap.size (Own σ E X0) lv v) (nw:List Nat) (p:List Prop) :
    MOk P N w0 X0 σ a w o ⟨some (.own d),noK,oneB d (.arr sz n row),nw,p⟩:=by
 intro K Q hk
 obtain ⟨E',h1,h2,h3⟩:=(hs.grow hb1).newArr hi vs T sz n cap row hn hcap hl hsz ho1 hr
 refine zd3 hrun (hk _ _ E' h3 (fun h=>by cases h) fun lv hlv=>?_)
 cases hlv
 refine ⟨by rw [← h2];exact .own d,fun id hmm=>by cases hmm;simp [FS.upd,oneB]⟩

theorem z19 (hs : Sat N w0 X0 σ E a w) {o : Oper} {d T : Nat} {l c : Operand} (ho : o.op = .makeSlice T l c) {e : Nat} (hu : P.underlying T = some (.slice e)) {kl kc : IntKind} {n m : Int}
    (hl:RepV w w0.heap.size (Own σ E X0) E (.int kl n) (a.eval l)) (hc:RepV w w0.heap.size (Own σ E X0) E (.int kc m) (a.eval c)) {z:List LV} (hz:zeroL P e=some z) {i:TypeInfo} (hi:P.info? e=some i)
    (hzi:z.length=i.size) (h0:0≤n) (h1:n≤m) (h2:(i.bytes:Int) * m≤281474976710656) (h3:m≤9223372036854775807) (hd:σ.used d=false) (nw:List Nat) (p:List Prop) :
    MOk P N w0 X0 σ a w o ⟨some (.own d),noK,oneB d (.arr i.size n.toNat (fun _=>z)),nw,p⟩:=by
 obtain ⟨i',zv,g1,g2,g3,g4⟩:=zew hz
 rw [hi] at g1;cases g1
 have hr:=run_make (P:=P) w T e i zv hu hi g2 kl kc n m h0 h1 h2 h3
 refine zqp hs (w1:=w) (Below.refl _ _) (T:=e) (vs:=madeCells zv.cells (m.toNat * i.size)) (cap:=m.toNat) ?_ hd om (by unfold maxLen;omega) (by simp [size_madeCells]) (fun k _=>hzi) (fun k _=>znu hz) (fun k hk j lv v hj hv=>?_) nw p
 ·simp only [execOp,ho,Sem.run_bind,hl.int_inv,hc.int_inv,hr,Result.andThen_ok,Sem.run_pure]
 ·have hjs:j<i.size:=by rw [← hzi];exact (List.getElem?_eq_some_iff.1 hj).1
  have hkm:k * i.size+j<m.toNat * i.size:=by
   have:k * i.size+i.size≤m.toNat * i.size:=by rw [← Nat.succ_mul];exact Nat.mul_le_mul_right i.size om
   omega
  have hmod:(k * i.size+j) % i.size=j:=by rw [Nat.mul_comm,Nat.mul_add_mod];exact Nat.mod_eq_of_lt hjs
  have hzs:zv.cells.size=i.size:=by omega
  have:v=zv.cells[j]' om:=by
   have h5:(madeCells zv.cells (m.toNat * i.size))[k * i.size+j]?=some (zv.cells[(k * i.size+j) % zv.cells.size]!):=by
    simp [madeCells,hkm]
   rw [h5,hzs,hmod] at hv
   simp only [Option.some.injEq] at hv
   rw [← hv,getElem!_pos zv.cells j om]
  subst this
  exact g4 j lv _ hj (Array.getElem?_eq_getElem om)

section fill
theorem zlg (off : Nat) : ∀ (l : List Value) (k : Nat) (cs : Array Value), off + k + l.length ≤ cs.size → ∀ m : Nat,
    ((l.zipIdx k).foldl (fun cs (x:Value×Nat)=>cs.setIfInBounds (off+x.2) x.1) cs).size=cs.size ∧
    ((l.zipIdx k).foldl (fun cs (x:Value×Nat)=>cs.setIfInBounds (off+x.2) x.1) cs)[m]?=if off+k≤m∧m<off+k+l.length then l[m - (off+k)]? else cs[m]?
 | [],k,cs,_,m=>by
  refine ⟨rfl,?_⟩
  rw [if_neg zas]
  rfl
 | x :: l,k,cs,hl,m=>by
  simp only [List.length_cons] at hl
  obtain ⟨h1,h2⟩:=zlg off l (k+1) (cs.setIfInBounds (off+k) x) (by simp;omega) m
  simp only [List.zipIdx_cons,List.foldl_cons]
  refine ⟨by rw [h1];simp,?_⟩
  rw [h2]
  by_cases hm:m=off+k
  ·subst hm
   rw [if_neg om,if_pos zas]
   simp [show off+k<cs.size from by omega]
  ·by_cases hc:off+(k+1)≤m∧m<off+(k+1)+l.length
   ·rw [if_pos hc,if_pos (by simp only [List.length_cons];omega)]
    rw [show m - (off+k)=(m - (off+(k+1)))+1 from by omega,List.getElem?_cons_succ]
   ·rw [if_neg hc,if_neg (by simp only [List.length_cons];omega)]
    rw [Array.getElem?_setIfInBounds_ne om]

theorem zpi (R : LV → Value → Prop) {place : Nat → Option (Nat × Nat)} : ∀ (pl : List (Nat × List LV)) (pv : List (Nat × Value)) (cs : List LV) (cv : Array Value) (out : List LV),
    fillL place cs pl=some out→cv.size=cs.length→(∀ (j:Nat) x u,cs[j]?=some x→cv[j]?=some u→R x u)→pv.length=pl.length →
    (∀ (i:Nat) x y,pl[i]?=some x→pv[i]?=some y→x.1=y.1∧y.2.cells.size=x.2.length∧∀ (j:Nat) z u,x.2[j]?=some z→y.2.cells[j]?=some u→R z u) →
    ∃ ov,Instr.fill place cv pv=some ov∧ov.size=out.length∧out.length=cs.length∧∀ (j:Nat) x u,out[j]?=some x→ov[j]?=some u→R x u
 | [],pv,cs,cv,out,h,hl,hr,hp,_=>by
  have:pv=[]:=List.eq_nil_of_length_eq_zero (by simpa using hp)
  subst this
  cases h
  exact ⟨cv,rfl,hl,rfl,hr⟩
 | (i,v) :: pl,[],cs,cv,out,h,hl,hr,hp,_=>by simp at hp
 | (i,v) :: pl,(i',y) :: pv,cs,cv,out,h,hl,hr,hp,hh=>by
  obtain ⟨e1,e2,e3⟩:=hh 0 (i,v) (i',y) zas zas
  simp only at e1 e2 e3
  subst e1
  unfold fillL at h
  split at h
  ·rename_i off sz hpl
   cases hc:(Nat.beq v.length sz&&Nat.ble (off+sz) cs.length) with
   | false=>rw [hc] at h;cases h
   | true =>
    rw [hc] at h
    simp only [cond_true] at h
    simp only [Bool.and_eq_true] at hc
    have h1:=Nat.eq_of_beq_eq_true hc.1
    have h2:=Nat.le_of_ble_eq_true hc.2
    have hfold:y.cells.zipIdx.foldl (fun cs (c,j)=>cs.setIfInBounds (off+j) c) cv=(y.cells.toList.zipIdx 0).foldl (fun cs (x:Value×Nat)=>cs.setIfInBounds (off+x.2) x.1) cv:=by
     rw [← Array.foldl_toList,Array.toList_zipIdx]
    have hyl:y.cells.toList.length=v.length:=by simpa using e2
    have hg:=zlg off y.cells.toList 0 cv om
    obtain ⟨ov, k1, k2, k3, k4⟩ := zpi R pl pv (zen cs off v) ((y.cells.toList.zipIdx 0).foldl (fun cs (x : Value × Nat) => cs.setIfInBounds (off + x.2) x.1) cv) out h
      (by rw [(hg 0).1,ze5 _ _ _ om];exact hl)
      (fun j x u hx hu=>by
        rw [zlx _ _ _ _ om] at hx
        rw [(hg j).2] at hu
        by_cases hj:off≤j∧j<off+v.length
        · rw [if_pos hj] at hx
          rw [if_pos om] at hu
          simp only [Nat.add_zero] at hu
          exact e3 (j - off) x u hx (by rw [← Array.getElem?_toList];exact hu)
        · rw [if_neg hj] at hx
          rw [if_neg om] at hu
          exact hr j x u hx hu)
      (by simpa using hp) (fun m x z hx hz=>hh (m+1) x z (by simpa using hx) (by simpa using hz))
    refine ⟨ov,?_,k2,by rw [k3,ze5 _ _ _ om],k4⟩
    simp only [Instr.fill,hpl]
    rw [if_neg (by simp;omega),hfold]
    exact k1
  ·cases h
end fill

theorem zhp (hs : Sat N w0 X0 σ E a w) : ∀ {xs : List (Nat × Operand)} {l : List (Nat × List LV)} {p : List Prop}, zem σ.slot xs = some (l, p) → All p →
    xs.length = l.length ∧ ∀ (i : Nat) x y, l[i]? = some x → xs[i]? = some y → x.1 = y.1 ∧ (a.eval y.2).cells.size = x.2.length ∧
      (∀ (j:Nat) z u,x.2[j]?=some z→(a.eval y.2).cells[j]?=some u→RepV w w0.heap.size (Own σ E X0) E z u)∧∀ z∈x.2,∀ id,Ment z id→σ.used id=true
 | [],l,p,h,_=>by cases h;exact ⟨rfl,fun i x y h=>by simp at h⟩
 | (i0,o) :: r,l,p,h,ha=>by
  simp only [zem] at h
  split at h
  ·rename_i v q vs q' h1 h2
   split at h
   ·rename_i cs hcs
    cases h
    obtain ⟨ha1,ha2⟩:=All.append.1 ha
    obtain ⟨h3,h4⟩:=zhp hs h2 ha2
    obtain ⟨g1,g2⟩:=zbk hs h1 ha1
    obtain ⟨c1,c2,c3,c4⟩:=zjj hcs g1
    refine ⟨by simp [h3],fun i x y hx hy=>?_⟩
    cases i with
    | zero=>simp at hx hy;subst hx;subst hy;exact ⟨rfl,c1,c2,fun z hz id hm=>g2 id (c4 z hz id hm)⟩
    | succ i=>exact h4 i x y (by simpa using hx) (by simpa using hy)
   ·cases h
  ·cases h

theorem zwm (hs : Sat N w0 X0 σ E a w) {X' : Nat → Prop} (h1 : ∀ b, X' b → Own σ E X0 b) : ∀ {vs xs : List (Nat × List LV)} {is : List Nat}, frzP σ.blk vs = some (xs, is) →
    (∀ k ∈ is, ∀ b, (E k).b = some b → ¬ X' b) → xs.length = vs.length ∧ ∀ (j : Nat) x, xs[j]? = some x → ∃ y, vs[j]? = some y ∧ x.1 = y.1 ∧ x.2.length = y.2.length ∧
      ∀ (m:Nat) z,x.2[m]?=some z→∃ t,y.2[m]?=some t∧∀ u,RepV w w0.heap.size (Own σ E X0) E t u→RepC w w0.heap.size X' z u
 | [],xs,is,h,_=>by cases h;exact ⟨rfl,fun j x hx=>by simp at hx⟩
 | (i,v) :: r,xs,is,h,h2=>by
  simp only [frzP] at h
  split at h
  ·rename_i x i' ys js g1 g2
   cases h
   obtain ⟨k1,k2⟩:=zwm hs h1 g2 (fun k hk=>h2 k (List.mem_append.2 (.inr hk)))
   obtain ⟨m1,m2⟩:=zno hs h1 g1 (fun k hk=>h2 k (List.mem_append.2 (.inl hk)))
   refine ⟨by simp [k1],fun j z hz=>?_⟩
   cases j with
   | zero=>simp at hz;subst hz;exact ⟨(i,v),by simp,rfl,m1,m2⟩
   | succ j=>simpa using k2 j z (by simpa using hz)
  ·cases h
theorem zwn : ∀ {vs xs : List (Nat × List LV)} {is : List Nat}, frzP σ.blk vs = some (xs, is) → ∀ p ∈ xs, ∀ x ∈ p.2, isOne x = true
  | [],xs,is,h,p,hp=>by cases h;simp at hp
  | (i,v) :: r,xs,is,h,p,hp=>by
    simp only [frzP] at h
    split at h
    · rename_i x i' ys js g1 g2
      cases h
      rcases List.mem_cons.1 hp with hp | hp
      · subst hp;exact zr5 g1
      · exact zwn g2 p hp
    · cases h
theorem ztw {place : Nat → Option (Nat × Nat)} : ∀ {pl : List (Nat × List LV)} {cs out : List LV}, fillL place cs pl = some out → (∀ x ∈ cs, isOne x = true) → (∀ p ∈ pl, ∀ x ∈ p.2, isOne x = true) → ∀ x ∈ out, isOne x = true
  | [],cs,out,h,hc,_=>by cases h;exact hc
  | (i,v) :: pl,cs,out,h,hc,hp=>by
    unfold fillL at h
    split at h
    · rename_i off sz hpl
      cases hb:(Nat.beq v.length sz&&Nat.ble (off+sz) cs.length) with
      | false=>rw [hb] at h;cases h
      | true =>
        rw [hb] at h
        simp only [cond_true] at h
        refine ztw h (fun x hx=>?_) (fun p hp'=>hp p (List.mem_cons_of_mem _ hp'))
        unfold zen at hx
        rcases List.mem_append.1 hx with h | h
        · exact hc x (List.mem_of_mem_take h)
        · rcases List.mem_append.1 h with h | h
          · exact hp (i,v) (List.mem_cons_self ..) x h
          · exact hc x (List.mem_of_mem_drop h)
    · cases h
theorem ziv : ∀ {vs xs : List (Nat × List LV)} {is : List Nat}, frzP σ.blk vs = some (xs, is) → ∀ k ∈ is, ∃ sz n row, σ.blk k = some (.arr sz n row)
  | [],xs,is,h,k,hk=>by cases h;simp at hk
  | (i,v) :: r,xs,is,h,k,hk=>by
    simp only [frzP] at h
    split at h
    · rename_i x i' ys js g1 g2
      cases h
      rcases List.mem_append.1 hk with hk | hk
      · exact zlf g1 k hk
      · exact ziv g2 k hk
    · cases h

theorem zea (hs:Sat N w0 X0 σ E a w) {i:Nat} (hi:σ.used i=false):σ.blk i=none:=by
 cases hb:σ.blk i with
 | none=>rfl
 | some c=>have:=hs.live i (by rw [hb];simp);rw [hi] at this;cases this

theorem zuu (hs : Sat N w0 X0 σ E a w) {o : Oper} {d : Nat} {T : TypeId} {vs : Array Value} {sz n cap : Nat} {row : Nat → List LV} {ks : List Nat}
    (hrun:(execOp a.eval o).run P w=.ok (.value (.slice (some ⟨w.heap.size,0,none⟩) n cap)) (w.alloc (.cells vs T)))
    (hi:σ.used d=false) (hn:n≤cap) (hcap:cap≤maxLen) (hl:cap * sz≤vs.size) (hsz:∀ k,k<n→(row k).length=sz) (ho1:∀ k,k<n→∀ lv∈row k,isOne lv=true) (hks:∀ k∈ks,σ.blk k≠none)
    (hr:∀ X':Nat→Prop,(∀ b,X' b→Own σ E X0 b)→(∀ k∈ks,∀ b,(E k).b=some b→¬ X' b)→∀ k,k<n→∀ (j:Nat) lv v,(row k)[j]?=some lv→vs[k * sz+j]?=some v→RepC w w0.heap.size X' lv v) (nw:List Nat) (p:List Prop) :
    MOk P N w0 X0 σ a w o ⟨some (.own d),killL ks,oneB d (.arr sz n row),nw,p⟩:=by
 intro K Q hk
 have hdl:=zea hs hi
 have hdk:d ∉ ks:=fun h=>hks d h hdl
 let ei:EI:=⟨some w.heap.size,0,some ⟨w.heap.size,0,none⟩,n,cap,n⟩
 have hh:∀ b,b<w.heap.size→(w.alloc (.cells vs T)).heap[b]?=w.heap[b]?:=fun b hb=>Below.heap_alloc _ _ _ hb
 have hEd:(E.setF (one d (.arr sz n row) ei)) d=ei:=by simp [Env.setF,one]
 have hEo:∀ j,σ.blk j≠none→(E.setF (one d (.arr sz n row) ei)) j=E j:=fun j hj=>by
  have:j≠d:=fun e=>hj (e ▸ hdl)
  simp [Env.setF,one,this]
 have hown:∀ b,Own (σ.upd (killL ks) (oneB d (.arr sz n row))) (E.setF (one d (.arr sz n row) ei)) X0 b→b<w.heap.size→Own σ E X0 b:=fun b hb hlt=>by
  rcases zgj zgd hb with hq | hq
  ·exact hq
  ·simp only [ei,Option.some.injEq] at hq;omega
 have hS:Sat N w0 X0 (σ.upd (killL ks) (oneB d (.arr sz n row))) (E.setF (one d (.arr sz n row) ei)) a (w.alloc (.cells vs T)):=by
  rw [← zdd d (.arr sz n row) ei,← FS.setF_eq]
  refine hs.set (killL ks) d _ ei (.inl hi) zas (fun b hb _=>hh b hb) (fun b hb=>.inl (by simp only [ei,Option.some.injEq] at hb;omega)) (hs.below.alloc hs.below.size _) (fun c lv id hc=>by cases hc) ?_
  rw [FS.setF_eq,zdd]
  refine ⟨by rw [hEd],.inr ⟨w.heap.size,cap,vs,T,by rw [hEd],by rw [hEd];rfl,hs.below.size,heap_alloc_new w _,hn,hcap,by rw [hEd];simpa [ei] using hl,fun k hk=>⟨hsz k hk,ho1 k hk,fun j lv v hj hv=>?_⟩⟩⟩
  rw [hEd] at hv
  have hv':vs[k * sz+j]?=some v:=by simpa [ei] using hv
  refine (hr (fun b => Own (σ.upd (killL ks) (oneB d (.arr sz n row))) (E.setF (one d (.arr sz n row) ei)) X0 b ∧ b < w.heap.size) (fun b hb => hown b hb.1 hb.2) (fun k' hk' b hkb hb => ?_) k hk j lv v hj hv').keep zas (fun b hb _ => hh b hb)
    (fun b hb=>?_) (Nat.le_refl _)
  ·exact zgv hs zgd hdk (.inr ⟨w.heap.size,rfl,Nat.le_refl _⟩) hk' (.inl ⟨hks k' hk',hkb⟩) hb.1
  ·by_cases hlt:b<w.heap.size
   ·exact .inl ⟨hb,hlt⟩
   ·exact .inr om
 refine zd3 hrun (hk _ _ _ hS (fun h=>by cases h) fun lv hlv=>?_)
 cases hlv
 refine ⟨?_,fun id hmm=>by cases hmm;simp [FS.upd,oneB]⟩
 have:=RepV.own (w:=w.alloc (.cells vs T)) (B:=w0.heap.size) (X:=Own (σ.upd (killL ks) (oneB d (.arr sz n row))) (E.setF (one d (.arr sz n row) ei)) X0) (E:=E.setF (one d (.arr sz n row) ei)) d
 rw [hEd] at this
 exact this

theorem zuv (hs : Sat N w0 X0 σ E a w) {o : Oper} {d : Nat} {T : TypeId} {vs : Array Value} {sz n cap : Nat} {row : Nat → List LV} {ks : List Nat}
    (hrun:(execOp a.eval o).run P w=.ok (.value (.pointer (some ⟨w.heap.size,0,none⟩))) (w.alloc (.cells vs T)))
    (hi:σ.used d=false) (h1n:1≤n) (hn:n≤cap) (hcap:cap≤maxLen) (hl:cap * sz≤vs.size) (hsz:∀ k,k<n→(row k).length=sz) (ho1:∀ k,k<n→∀ lv∈row k,isOne lv=true) (hks:∀ k∈ks,σ.blk k≠none)
    (hr:∀ X':Nat→Prop,(∀ b,X' b→Own σ E X0 b)→(∀ k∈ks,∀ b,(E k).b=some b→¬ X' b)→∀ k,k<n→∀ (j:Nat) lv v,(row k)[j]?=some lv→vs[k * sz+j]?=some v→RepC w w0.heap.size X' lv v) (nw:List Nat) (p:List Prop) :
    MOk P N w0 X0 σ a w o ⟨some (.ap d sz 0 0),killL ks,oneB d (.arr sz n row),nw,p⟩:=by
 intro K Q hk
 have hdl:=zea hs hi
 have hdk:d ∉ ks:=fun h=>hks d h hdl
 let ei:EI:=⟨some w.heap.size,0,some ⟨w.heap.size,0,none⟩,n,cap,n⟩
 have hh:∀ b,b<w.heap.size→(w.alloc (.cells vs T)).heap[b]?=w.heap[b]?:=fun b hb=>Below.heap_alloc _ _ _ hb
 have hEd:(E.setF (one d (.arr sz n row) ei)) d=ei:=by simp [Env.setF,one]
 have hEo:∀ j,σ.blk j≠none→(E.setF (one d (.arr sz n row) ei)) j=E j:=fun j hj=>by
  have:j≠d:=fun e=>hj (e ▸ hdl)
  simp [Env.setF,one,this]
 have hown:∀ b,Own (σ.upd (killL ks) (oneB d (.arr sz n row))) (E.setF (one d (.arr sz n row) ei)) X0 b→b<w.heap.size→Own σ E X0 b:=fun b hb hlt=>by
  rcases zgj zgd hb with hq | hq
  ·exact hq
  ·simp only [ei,Option.some.injEq] at hq;omega
 have hS:Sat N w0 X0 (σ.upd (killL ks) (oneB d (.arr sz n row))) (E.setF (one d (.arr sz n row) ei)) a (w.alloc (.cells vs T)):=by
  rw [← zdd d (.arr sz n row) ei,← FS.setF_eq]
  refine hs.set (killL ks) d _ ei (.inl hi) zas (fun b hb _=>hh b hb) (fun b hb=>.inl (by simp only [ei,Option.some.injEq] at hb;omega)) (hs.below.alloc hs.below.size _) (fun c lv id hc=>by cases hc) ?_
  rw [FS.setF_eq,zdd]
  refine ⟨by rw [hEd],.inr ⟨w.heap.size,cap,vs,T,by rw [hEd],by rw [hEd];rfl,hs.below.size,heap_alloc_new w _,hn,hcap,by rw [hEd];simpa [ei] using hl,fun k hk=>⟨hsz k hk,ho1 k hk,fun j lv v hj hv=>?_⟩⟩⟩
  rw [hEd] at hv
  have hv':vs[k * sz+j]?=some v:=by simpa [ei] using hv
  refine (hr (fun b => Own (σ.upd (killL ks) (oneB d (.arr sz n row))) (E.setF (one d (.arr sz n row) ei)) X0 b ∧ b < w.heap.size) (fun b hb => hown b hb.1 hb.2) (fun k' hk' b hkb hb => ?_) k hk j lv v hj hv').keep zas (fun b hb _ => hh b hb)
    (fun b hb=>?_) (Nat.le_refl _)
  ·exact zgv hs zgd hdk (.inr ⟨w.heap.size,rfl,Nat.le_refl _⟩) hk' (.inl ⟨hks k' hk',hkb⟩) hb.1
  ·by_cases hlt:b<w.heap.size
   ·exact .inl ⟨hb,hlt⟩
   ·exact .inr om
 refine zd3 hrun (hk _ _ _ hS (fun h=>by cases h) fun lv hlv=>?_)
 cases hlv
 refine ⟨?_,fun id hmm=>by cases hmm;simp [FS.upd,oneB]⟩
 have:=RepV.ap (w:=w.alloc (.cells vs T)) (B:=w0.heap.size) (X:=Own (σ.upd (killL ks) (oneB d (.arr sz n row))) (E.setF (one d (.arr sz n row) ei)) X0) (E:=E.setF (one d (.arr sz n row) ei)) d sz 0 0 w.heap.size (by rw [hEd]) (by rw [hEd];exact h1n)
 rw [hEd] at this
 simpa [ei] using this

theorem zgi (z:List LV) (len:Nat):∀ (m:Nat) (x:LV),((List.replicate len z).flatten)[m]?=some x→z[m % z.length]?=some x:=by
 induction len with
 | zero=>intro m x h;simp at h
 | succ len ih =>
  intro m x h
  rw [List.replicate_succ,List.flatten_cons] at h
  by_cases hm:m<z.length
  ·rw [List.getElem?_append_left hm] at h
   rw [Nat.mod_eq_of_lt hm];exact h
  ·rw [List.getElem?_append_right om] at h
   have:=ih _ _ h
   rw [Nat.mod_eq_sub_mod om]
   exact this
theorem zdt (z:List LV) (len:Nat):((List.replicate len z).flatten).length=len * z.length:=by
 induction len with
 | zero=>simp
 | succ len ih=>simp [List.replicate_succ,ih,Nat.succ_mul,Nat.add_comm]

theorem zpw {T e n len : Nat} (hu : P.underlying T = some (.slice e)) (hz : szOf P e = some n) {i : TypeInfo} {zv : Value} (hi : P.info? e = some i) (hzv : i.zero = some zv) (hcap : len * n ≤ 16777216)
    {parts : Array (Nat × Value)} {ov : Array Value} (hf : Instr.fill (fun j => some (j * n, n)) ((Array.range (len * n)).map (zv.cells[· % zv.cells.size]!)) parts.toList = some ov) :
    (Instr.buildSlice T len parts).run P w=.ok (.slice (some ⟨w.heap.size,0,none⟩) len len) (w.alloc (.cells ov e)):=by
 have hn:i.size=n:=by simpa [szOf,hi] using hz
 have h1:¬ (len * n > 2 ^ 24):=by omega
 by_cases h0:len * n=0
 ·have hz0 : (Array.range (len * n)).map (zv.cells[· % zv.cells.size]!) = (Array.range (len * n)).map ((#[] : Array Value)[· % (#[] : Array Value).size]!) := by simp [h0]
  rw [hz0] at hf
  simp only [Instr.buildSlice,Sem.run_bind,run_underlying hu,Result.andThen_ok,zds hz,if_neg h1,Sem.run_pure,if_pos h0,hf,newRow,run_newObj]
  rfl
 ·simp only [Instr.buildSlice,Sem.run_bind,run_underlying hu,Result.andThen_ok,zds hz,if_neg h1,Sem.run_pure,if_neg h0,zeroValue,typeInfo,run_program,hi,hzv,hf,newRow,run_newObj]
  rfl

theorem zjr (hs : Sat N w0 X0 σ E a w) {o : Oper} {d T len : Nat} {parts : Array (Nat × Operand)} (ho : o.op = .buildSlice T len parts) {e n : Nat} (hu : P.underlying T = some (.slice e)) {vs xs : List (Nat × List LV)} {p' : List Prop}
    (hev:zem σ.slot parts.toList=some (vs,p')) (ha:All p') {z:List LV} (hz:zeroL P e=some z) (hsz:szOf P e=some n) {ks:List Nat} (hf:frzP σ.blk vs=some (xs,ks)) {flat:List LV}
    (hfl:fillL (fun i=>some (i * n,n)) ((List.replicate len z).flatten) xs=some flat) (hzn:z.length=n) (hcap:len * n≤16777216) (hn1:1≤n) (hd:σ.used d=false) {row':Nat→List LV}
    (hrow:∀ i,i<len→row' i=(flat.drop (i * n)).take n) (nw:List Nat) (p:List Prop):MOk P N w0 X0 σ a w o ⟨some (.own d),killL ks,oneB d (.arr n len row'),nw,p⟩:=by
 obtain ⟨i,zv,g1,g2,g3,g4⟩:=zew hz
 have hin:i.size=n:=by simpa [szOf,g1] using hsz
 have hzs:zv.cells.size=n:=by omega
 obtain ⟨q1,q2⟩:=zhp hs hev ha
 have fill : ∀ X' : Nat → Prop, (∀ b, X' b → Own σ E X0 b) → (∀ k ∈ ks, ∀ b, (E k).b = some b → ¬ X' b) →
     ∃ ov, Instr.fill (fun j => some (j * n, n)) ((Array.range (len * n)).map (zv.cells[· % zv.cells.size]!)) (parts.map fun (i, x) => (i, a.eval x)).toList = some ov ∧ ov.size = flat.length ∧ flat.length = len * n ∧
       ∀ (j:Nat) x u,flat[j]?=some x→ov[j]?=some u→RepC w w0.heap.size X' x u:=fun X' hX hkX=>by
  obtain ⟨m1,m2⟩:=zwm hs hX hf hkX
  obtain ⟨ov, k1, k2, k3, k4⟩ := zpi (RepC w w0.heap.size X') xs (parts.map fun (i, x) => (i, a.eval x)).toList ((List.replicate len z).flatten) ((Array.range (len * n)).map (zv.cells[· % zv.cells.size]!)) flat hfl
    (by rw [zdt,hzn];simp) (fun j x u hx hu=>by
      have hx':=zgi z len j x hx
      rw [hzn] at hx'
      have hj:j<len * n:=by
        have:=(List.getElem?_eq_some_iff.1 hx).1
        rw [zdt,hzn] at this
        exact this
      have hmod:j % n<n:=Nat.mod_lt _ hn1
      have hu':u=zv.cells[j % n]' om:=by
        have h5 : ((Array.range (len * n)).map (zv.cells[· % zv.cells.size]!))[j]? = some (zv.cells[j % zv.cells.size]!) := by simp [hj]
        rw [h5,hzs] at hu
        simp only [Option.some.injEq] at hu
        rw [← hu,getElem!_pos zv.cells (j % n) om]
      subst hu'
      exact g4 (j % n) x _ hx' (Array.getElem?_eq_getElem om))
    (by simp;rw [m1];simpa using q1) (fun j x y hx hy=>by
      obtain ⟨t,ht,e1,e2,e3⟩:=m2 j x hx
      simp only [Array.toList_map,List.getElem?_map,Option.map_eq_some_iff] at hy
      obtain ⟨y0,hy0,rfl⟩:=hy
      obtain ⟨r1,r2,r3,_⟩:=q2 j t y0 ht hy0
      refine ⟨e1.trans r1,by rw [e2];exact r2,fun m z' u hz' hu=>?_⟩
      obtain ⟨t',ht',hh⟩:=e3 m z' hz'
      exact hh u (r3 m t' u ht' hu))
  exact ⟨ov,k1,k2,by rw [k3,zdt,hzn],k4⟩
 have hflo:∀ x∈flat,isOne x=true:=ztw hfl (fun x hx=>by
   obtain ⟨m,hm,e⟩:=List.getElem_of_mem hx
   exact znu hz x (List.mem_of_getElem? (zgi z len m x (by rw [List.getElem?_eq_getElem hm,e])))) (fun p hp=>zwn hf p hp)
 have hksl:∀ k∈ks,σ.blk k≠none:=fun k hk=>by obtain ⟨_,_,_,h⟩:=ziv hf k hk;rw [h];simp
 obtain ⟨ov,k1,k2,k3,_⟩:=fill (fun _=>False) (fun b h=>h.elim) (fun _ _ _ _ h=>h)
 refine zuu hs (T:=e) (vs:=ov) (cap:=len) ?_ hd (Nat.le_refl _) ?_ om (fun k hk=>?_) (fun k hk=>?_) hksl (fun X' hX hkX k hk j lv v hj hv=>?_) nw p
 ·have:=zpw (P:=P) (w:=w) hu hsz g1 g2 hcap (parts:=parts.map fun (i,x)=>(i,a.eval x)) k1
  simp only [execOp,ho,Sem.run_bind,this,Result.andThen_ok,Sem.run_pure]
 ·have:len≤len * n:=Nat.le_mul_of_pos_right len hn1
  unfold maxLen;omega
 ·rw [hrow k hk]
  have:k * n+n≤len * n:=by rw [← Nat.succ_mul];exact Nat.mul_le_mul_right n hk
  simp;omega
 ·rw [hrow k hk]
  intro lv hlv
  exact hflo lv (List.mem_of_mem_drop (List.mem_of_mem_take hlv))
 ·obtain ⟨ov',m1,m2,m3,m4⟩:=fill X' hX hkX
  rw [k1] at m1;cases m1
  rw [hrow k hk] at hj
  have hjn:j<n:=by
   have:=(List.getElem?_eq_some_iff.1 hj).1
   simp at this;omega
  rw [List.getElem?_take,if_pos hjn,List.getElem?_drop] at hj
  exact m4 _ lv v hj hv

theorem zkh (hs : Sat N w0 X0 σ E a w) {y : LV} {sz m : Nat} {row : Nat → List LV} {is : List Nat} (h : arrOf σ.blk y = some (sz, m, row, is)) {v : Value} (hr : RepV w w0.heap.size (Own σ E X0) E y v) :
    ∃ (A : Option Addr) (cap : Nat), v = .slice A m cap ∧ (0 < m → ∃ (ad : Addr) (cv : Nat → Nat → Value), A = some ad ∧ (∀ k j, k < m → j < sz → w.cell? (ad.add (k * sz + j)) = some (cv k j)) ∧
      (∀ k,k<m→(row k).length=sz)∧(∀ k j lv,k<m→(row k)[j]?=some lv→RepC w w0.heap.size (Own σ E X0) lv (cv k j))∧∀ k,k<m→∀ lv∈row k,isOne lv=true):=by
 unfold arrOf at h
 split at h
 ·rename_i id
  split at h
  ·rename_i sz' n' row' hb
   cases h
   have e:=hr.own_inv
   subst e
   obtain ⟨hn,hk⟩:=hs.blks id _ hb
   rcases hk with ⟨_,k2,k3⟩ | ⟨b,cap,vs,T',k1,k2,k3,k4,k5,k6,k7,k8⟩
   ·subst k3;exact ⟨none,0,k2,fun h=>absurd h om⟩
   ·have hbd:∀ i j,i<m→j<sz→(E id).off+i * sz+j<vs.size:=fun i j hi hj=>by
     have h1:i * sz+sz≤cap * sz:=by rw [← Nat.succ_mul];exact Nat.mul_le_mul_right sz om
     omega
    refine ⟨_,cap,k2,fun _=>⟨⟨b,(E id).off,none⟩,fun i j=>vs.getD ((E id).off+i * sz+j) undef,rfl,fun i j hi hj=>?_,fun i hi=>(k8 i hi).1,fun i j lv hi hl=>?_,fun i hi=>(k8 i hi).2.1⟩⟩
    ·rw [zc1,← Nat.add_assoc]
     have:=hbd i j hi hj
     simp [World.cell?,k4,this]
    ·have hj:j<sz:=by rw [← (k8 i hi).1];exact (List.getElem?_eq_some_iff.1 hl).1
     have:=hbd i j hi hj
     exact (k8 i hi).2.2 j lv _ hl (by simp [this])
  ·cases h
 ·cases h
  have h:=hr.ro_inv
  cases h with
  | ro _ _ _ _ A ad cap cv hcap hA hlt hX hb hsz ho1 hc hrr=>exact ⟨A,cap,rfl,fun h0=>⟨ad,cv,hA h0,hc,hsz,fun k j lv hk hl=>hrr k j lv hk hl,ho1⟩⟩
 ·cases h

theorem zqk {lv:LV} {v:Value} {B:Nat} {X:Nat→Prop} (h:RepC w B X lv v) (h1:isOne lv=true):v.oneCell'=true:=(zoj (E:=⟨fun _=>⟨none,0,none,0,0,0⟩,fun _ _=>False⟩) h1 (.c _ _ h)).1

def zd7 (m sz:Nat) (cv:Nat→Nat→Value):List Value:=(List.range (m * sz)).map fun t=>cv (t / sz) (t % sz)
theorem zi9 {m sz:Nat} {cv:Nat→Nat→Value} (hsz:1≤sz) (k j:Nat) (hk:k<m) (hj:j<sz):(zd7 m sz cv)[k * sz+j]?=some (cv k j):=by
 have h1:k * sz+j<m * sz:=by
  have:k * sz+sz≤m * sz:=by rw [← Nat.succ_mul];exact Nat.mul_le_mul_right sz hk
  omega
 have h2:(k * sz+j) / sz=k:=by rw [Nat.mul_comm,Nat.mul_add_div om,Nat.div_eq_of_lt hj,Nat.add_zero]
 have h3:(k * sz+j) % sz=j:=by rw [Nat.mul_comm,Nat.mul_add_mod];exact Nat.mod_eq_of_lt hj
 simp [zd7,h1,h2,h3]
theorem zde (m sz:Nat) (cv:Nat→Nat→Value):(zd7 m sz cv).length=m * sz:=by simp [zd7]
theorem zir {m sz : Nat} {cv : Nat → Nat → Value} {ad : Addr} (hsz : 1 ≤ sz) (hc : ∀ k j, k < m → j < sz → w.cell? (ad.add (k * sz + j)) = some (cv k j)) (t : Nat) (u : Value) (h : (zd7 m sz cv)[t]? = some u) :
    w.cell? (ad.add t)=some u:=by
 have ht:t<m * sz:=by rw [← zde m sz cv];exact (List.getElem?_eq_some_iff.1 h).1
 have hj:t % sz<sz:=Nat.mod_lt _ hsz
 have hk:t / sz<m:=(Nat.div_lt_iff_lt_mul om).2 ht
 have e:t / sz * sz+t % sz=t:=by rw [Nat.mul_comm];exact Nat.div_add_mod t sz
 have:=zi9 (cv:=cv) hsz (t / sz) (t % sz) hk hj
 rw [e,h] at this
 cases this
 have h2:=hc _ _ hk hj
 rwa [e] at h2

theorem zsw {T ty e b off n m c cap : Nat} (ht : P.underlying T = some (.slice e)) {i : TypeInfo} (hi : P.info? e = some i) {cur : Array Value} {T' : TypeId} (hg : w.heap[b]? = some (.cells cur T' (0, 0)))
    {ad:Addr} {news:List Value} (hl:news.length=m * i.size) (hnews:∀ j u,news[j]?=some u→w.cell? (ad.add j)=some u) (h1:∀ u∈news,u.oneCell'=true)
    (hroom:n+m≤cap) (hfit:off+n * i.size+news.length≤cur.size) :
    (Builtin.append_ #[T, T] ty #[.slice (some ⟨b, off, none⟩) n cap, .slice (some ad) m c]).run P w =
      .ok (.slice (some ⟨b,off,none⟩) (n+m) cap) (w.setRow b (cur.toList.take (off+n * i.size)++news++cur.toList.drop (off+n * i.size+news.length)).toArray):=by
 have hf:=run_firstCells_some (P:=P) w i.size m ad m c news hl hnews
 have hst:=run_storeCells_at P b (off+n * i.size) T' news 0 cur w hg (by simpa using hfit) h1
 simp only [Nat.add_zero] at hst
 simp [Builtin.append_,run_underlying ht,sizeOf,typeInfo,hi,Builtin.lenOf,hroom,hf,zc1,hst]

theorem zmj {T ty e c cap n : Nat} (ht : P.underlying T = some (.slice e)) {i : TypeInfo} (hi : P.info? e = some i) {A A' : Option Addr} (hn : n ≤ cap) :
    (Builtin.append_ #[T,T] ty #[.slice A n cap,.slice A' 0 c]).run P w=.ok (.slice A n cap) w:=by
 cases A<;>cases A'<;>simp [Builtin.append_,run_underlying ht,sizeOf,typeInfo,hi,Builtin.lenOf,Builtin.firstCells,hn,loadCells,loadCellsFrom,storeCells]

theorem zpj {o : Oper} {x y : Operand} {T T' : Nat} {tys : Array TypeId} {args : Array Operand} (ho : o.op = .call { callee := .builtin .append, args, argTypes := tys }) (ha : args.toList = [x, y]) (ht : tys.toList = [T, T']) {v : Value} {w' : World}
    (h:(Builtin.append_ #[T,T'] o.type #[a.eval x,a.eval y]).run P w=.ok v w'):(execOp a.eval o).run P w=.ok (.value v) w':=by
 have e1:args=#[x,y]:=by cases args;simp_all
 have e2:tys=#[T,T']:=by cases tys;simp_all
 subst e1;subst e2
 simp only [execOp,ho,Sem.run_bind,resolve,Sem.run_pure,Result.andThen_ok,invoke,builtin,List.map_toArray,List.map_cons,List.map_nil,h]

theorem zjs (hs : Sat N w0 X0 σ E a w) {o : Oper} {d T : Nat} {v1 v2 : Value} (hv1 : v1 = .slice none 0 0) {y : LV} {sz m : Nat} {row2 row' : Nat → List LV} {is : List Nat} (hrun : ∀ v w', (Builtin.append_ #[T, T] o.type #[v1, v2]).run P w = .ok v w' → (execOp a.eval o).run P w = .ok (.value v) w')
    {e:Nat} (hu:P.underlying T=some (.slice e)) {i:TypeInfo} (hi:P.info? e=some i) (hz:∃ z,zeroL P e=some z∧z.length=i.size) (hsz:sz=i.size) (hb1:1≤i.bytes) (hsz1:1≤sz) (hy:arrOf σ.blk y=some (sz,m,row2,is)) (hyr:RepV w w0.heap.size (Own σ E X0) E y v2)
    (hrow:∀ k,k<m→row' k=row2 k) (hbd:m * i.bytes≤140737488355328) (hd:σ.used d=false) (nw:List Nat) (p:List Prop):MOk P N w0 X0 σ a w o ⟨some (.own d),noK,oneB d (.arr sz m row'),nw,p⟩:=by
 subst hv1
 obtain ⟨A,cap,rfl,hA⟩:=zkh hs hy hyr
 have hmb:m≤m * i.bytes:=Nat.le_mul_of_pos_right m hb1
 rcases Nat.eq_zero_or_pos m with h0 | h0
 ·subst h0
  have hr:=hrun _ _ (zmj (P:=P) (w:=w) (ty:=o.type) hu hi (A:=none) (A':=A) (n:=0) (cap:=0) (c:=cap) (Nat.le_refl _))
  intro K Q hk
  let ei:EI:=⟨none,0,none,0,0,0⟩
  have hEd:(E.setF (one d (.arr sz 0 row') ei)) d=ei:=by simp [Env.setF,one]
  have hS:Sat N w0 X0 (σ.upd noK (oneB d (.arr sz 0 row'))) (E.setF (one d (.arr sz 0 row') ei)) a w:=by
   rw [← zdd d (.arr sz 0 row') ei,← FS.setF_eq]
   exact hs.set noK d _ ei (.inl hd) (Nat.le_refl _) (fun _ _ _=>rfl) (fun b hb=>by cases hb) hs.below (fun c lv id hc=>by cases hc) ⟨by rw [hEd],.inl ⟨by rw [hEd],by rw [hEd];rfl,rfl⟩⟩
  refine zd3 hr (hk _ _ _ hS (fun h=>by cases h) fun lv hlv=>?_)
  cases hlv
  refine ⟨?_,fun id hmm=>by cases hmm;simp [FS.upd,oneB]⟩
  have:=RepV.own (w:=w) (B:=w0.heap.size) (X:=Own (σ.upd noK (oneB d (.arr sz 0 row'))) (E.setF (one d (.arr sz 0 row') ei)) X0) (E:=E.setF (one d (.arr sz 0 row') ei)) d
  rw [hEd] at this
  exact this
 ·obtain ⟨ad,cv,rfl,c1,c2,c3,c4⟩:=hA h0
  obtain ⟨z,hz1,hz2⟩:=hz
  obtain ⟨i',zv,g1,g2,g3,g4⟩:=zew hz1
  rw [hi] at g1;cases g1
  have hbb:m * i.bytes≤281474976710656:=by omega
  have hm63:(m:Int)≤9223372036854775807:=by omega
  have hr:=hrun _ _ (run_append_nil (P:=P) w T o.type e i zv hu hi g2 ad m cap (zd7 m sz cv) (by rw [zde,hsz]) (fun j u h=>zir hsz1 c1 j u h) h0 hm63 hbb)
  have hge:=grownCap_ge w m 0 e
  refine zqp hs (w1:=w.drew) (Below.drew (Below.refl _ _)) (T:=e) hr hd hge (grownCap_le_maxLen w m 0 e (by unfold maxLen;omega)) ?_ (fun k hk=>by rw [hrow k hk];exact c2 k hk) (fun k hk=>by rw [hrow k hk];exact c4 k hk) (fun k hk j lv v hj hv=>?_) nw p
  ·simp only [Array.size_append,List.size_toArray,zde,size_zeroCells,g3,hz2,← hsz]
   rw [← Nat.add_mul]
   have:m+(grownCap w m 0 e - m)=grownCap w m 0 e:=by omega
   rw [this]
   exact Nat.le_refl _
  ·rw [hrow k hk] at hj
   have hjs:j<sz:=by rw [← c2 k hk];exact (List.getElem?_eq_some_iff.1 hj).1
   have hlt:k * sz+j<m * sz:=by
    have:k * sz+sz≤m * sz:=by rw [← Nat.succ_mul];exact Nat.mul_le_mul_right sz hk
    omega
   rw [Array.getElem?_append_left (by simp [zde];exact hlt),List.getElem?_toArray,zi9 hsz1 k j hk hjs] at hv
   cases hv
   exact (c3 k j lv hk hj).keep (Nat.le_refl _) (fun _ _ _=>rfl) (fun b hb=>.inl hb) (Nat.le_refl _)

theorem zxu {m sz : Nat} {cv : Nat → Nat → Value} {row : Nat → List LV} (hsz : 1 ≤ sz) {B : Nat} {X : Nat → Prop} (c2 : ∀ k, k < m → (row k).length = sz) (c3 : ∀ k j lv, k < m → (row k)[j]? = some lv → RepC w B X lv (cv k j))
    (c4:∀ k,k<m→∀ lv∈row k,isOne lv=true):∀ u∈zd7 m sz cv,u.oneCell'=true:=by
 intro u hu
 unfold zd7 at hu
 simp only [List.mem_map,List.mem_range] at hu
 obtain ⟨t,ht,rfl⟩:=hu
 have hj:t % sz<sz:=Nat.mod_lt _ hsz
 have hk:t / sz<m:=(Nat.div_lt_iff_lt_mul om).2 ht
 have hl:t % sz<(row (t / sz)).length:=by rw [c2 _ hk];exact hj
 exact zqk (c3 (t / sz) (t % sz) _ hk (List.getElem?_eq_getElem hl)) (c4 _ hk _ (List.getElem_mem hl))

set_option maxHeartbeats 1000000 in
theorem zp6 (hs : Sat N w0 X0 σ E a w) {o : Oper} {d T : Nat} {v1 v2 : Value} {y : LV} {id sz n m : Nat} {row1 row2 row' : Nat → List LV} {is : List Nat} (hrun : ∀ v w', (Builtin.append_ #[T, T] o.type #[v1, v2]).run P w = .ok v w' → (execOp a.eval o).run P w = .ok (.value v) w')
    (hv1:RepV w w0.heap.size (Own σ E X0) E (.own id) v1) (hb:σ.blk id=some (.arr sz n row1))
    {e:Nat} (hu:P.underlying T=some (.slice e)) {i:TypeInfo} (hi:P.info? e=some i) (hz:∃ z,zeroL P e=some z∧z.length=i.size) (hsz:sz=i.size) (hb1:1≤i.bytes) (hsz1:1≤sz) (hy:arrOf σ.blk y=some (sz,m,row2,is)) (hyr:RepV w w0.heap.size (Own σ E X0) E y v2)
    (hrow:∀ k,k<n+m→row' k=bif Nat.blt k n then row1 k else row2 (k - n)) (hbd:(n+m) * i.bytes≤140737488355328) (hd:σ.used d=false) (nw:List Nat) (p:List Prop) :
    MOk P N w0 X0 σ a w o ⟨some (.own d),killL [id],oneB d (.arr sz (n+m) row'),nw,p⟩:=by
 have hbid:σ.blk id≠none:=by rw [hb];simp
 have hdid:d≠id:=by rintro rfl;exact hbid (zea hs hd)
 have hv1:=hv1.own_inv
 obtain ⟨A,capy,rfl,hA⟩:=zkh hs hy hyr
 have hmb:n+m≤(n+m) * i.bytes:=Nat.le_mul_of_pos_right _ hb1
 have r1:∀ k,k<n→row' k=row1 k:=fun k hk=>by
  rw [hrow k om,show Nat.blt k n=true from Nat.ble_eq_true_of_le hk,cond_true]
 have r2:∀ k,n≤k→k<n+m→row' k=row2 (k - n):=fun k h1 h2=>by
  have hf:Nat.blt k n=false:=by
   cases h:Nat.blt k n with
   | false=>rfl
   | true=>have:=Nat.le_of_ble_eq_true h;omega
  rw [hrow k h2,hf,cond_false]
 obtain ⟨hn,hk0⟩:=hs.blks id _ hb
 -- what is owned afterwards
 have hEo:∀ (c:BC) (ei:EI) (j:Nat),σ.blk j≠none→(E.setF (one d c ei)) j=E j:=fun c ei j hj=>by
  have:j≠d:=fun e=>hj (e ▸ zea hs hd)
  simp [Env.setF,one,this]
 have hEd:∀ (c:BC) (ei:EI),(E.setF (one d c ei)) d=ei:=fun c ei=>by simp [Env.setF,one]
 have fin : ∀ (ei : EI) (w' : World), Sat N w0 X0 (σ.upd (killL [id]) (oneB d (.arr sz (n + m) row'))) (E.setF (one d (.arr sz (n + m) row') ei)) a w' → (Builtin.append_ #[T, T] o.type #[v1, .slice A m capy]).run P w = .ok ei.val w' →
     MOk P N w0 X0 σ a w o ⟨some (.own d),killL [id],oneB d (.arr sz (n+m) row'),nw,p⟩:=fun ei w' hS hr=>by
  intro K Q hk
  refine zd3 (hrun _ _ hr) (hk _ _ _ hS (fun h=>by cases h) fun lv hlv=>?_)
  cases hlv
  refine ⟨?_,fun id hmm=>by cases hmm;simp [FS.upd,oneB]⟩
  have:=RepV.own (w:=w') (B:=w0.heap.size) (X:=Own (σ.upd (killL [id]) (oneB d (.arr sz (n+m) row'))) (E.setF (one d (.arr sz (n+m) row') ei)) X0) (E:=E.setF (one d (.arr sz (n+m) row') ei)) d
  rw [hEd] at this
  exact this
 rcases hk0 with ⟨k1,k2,k3⟩ | ⟨b,cap,us,T',k1,k2,k3,k4,k5,k6,k7,k8⟩
 ·-- nothing was there
  subst k3
  rw [k2] at hv1
  have r2':∀ k,k<m→row' k=row2 k:=fun k hk=>by have:=r2 k om om;simpa using this
  have h:=zjs hs hv1 (row':=row') hrun hu hi hz hsz hb1 hsz1 hy hyr r2' (by simpa using hbd) hd nw p
  intro K Q hk
  refine h K Q fun v w' E' hS h1 h2=>?_
  have hSk:Sat N w0 X0 (σ.upd (killL [id]) (oneB d (.arr sz (0+m) row'))) E' a w':=by
   rw [Nat.zero_add]
   have hsub:∀ j,(σ.upd (killL [id]) (oneB d (.arr sz m row'))).blk j≠none→(σ.upd noK (oneB d (.arr sz m row'))).blk j=(σ.upd (killL [id]) (oneB d (.arr sz m row'))).blk j:=fun j hj=>by
    simp only [FS.upd] at hj ⊢
    cases ho:oneB d (.arr sz m row') j with
    | some c=>simp
    | none =>
     simp only [ho] at hj
     by_cases hkl:killL [id] j=true
     ·simp [hkl] at hj
     ·simp [hkl,noK]
   have hownsub:∀ b,Own (σ.upd (killL [id]) (oneB d (.arr sz m row'))) E' X0 b→Own (σ.upd noK (oneB d (.arr sz m row'))) E' X0 b:=fun b hbo=>by
    rcases hbo with hbo | ⟨j,hj⟩
    ·exact .inl hbo
    ·exact .inr ⟨j,by have e:=hsub j hj.ne;unfold OwnAt at hj ⊢;rw [e];exact hj⟩
   exact hS.weaken _ (fun _ _ h=>h) (fun j c hj=>by rw [hsub j (by rw [hj];simp)];exact hj) (fun _ h=>h)
  refine hk v w' E' hSk (fun h=>by cases h) fun lv hlv=>?_
  cases hlv
  obtain ⟨g1,g2⟩:=h2 (.own d) rfl
  rw [g1.own_inv]
  exact ⟨.own d,fun q hq=>by cases hq;simp [FS.upd,oneB]⟩
 ·rw [k2] at hv1
  subst hv1
  have hus:∀ k j,k<n→j<sz→(E id).off+k * sz+j<us.size:=fun k j hk hj=>by
   have h1:k * sz+sz≤cap * sz:=by rw [← Nat.succ_mul];exact Nat.mul_le_mul_right sz om
   omega
  rcases Nat.eq_zero_or_pos m with h0 | h0
  ·-- nothing is appended
   subst h0
   let ei:EI:=⟨some b,(E id).off,some ⟨b,(E id).off,none⟩,n,cap,n⟩
   refine fin ei w ?_ (zmj hu hi k5)
   have hown:∀ b',Own (σ.upd (killL [id]) (oneB d (.arr sz n row'))) (E.setF (one d (.arr sz n row') ei)) X0 b'→Own σ E X0 b':=fun b' hb'=>by
    rcases zgj zgd hb' with hq | hq
    ·exact hq
    ·simp only [ei,Option.some.injEq] at hq;subst hq;exact .inr ⟨id,.inl ⟨hbid,k1⟩⟩
   show Sat N w0 X0 (σ.upd (killL [id]) (oneB d (.arr sz n row'))) (E.setF (one d (.arr sz n row') ei)) a w
   rw [← zdd d (.arr sz n row') ei,← FS.setF_eq]
   refine hs.set (killL [id]) d _ ei (.inl hd) (Nat.le_refl _) (fun _ _ _=>rfl) (fun b' hb'=>.inr ⟨id,.inr (killL_mem.2 zas),hbid,by simp only [ei,Option.some.injEq] at hb';rw [← hb'];exact k1⟩) hs.below (fun c lv q hc=>by cases hc) ?_
   rw [FS.setF_eq,zdd]
   refine ⟨by rw [hEd],.inr ⟨b,cap,us,T',by rw [hEd],by rw [hEd];rfl,k3,k4,k5,k6,by rw [hEd];exact k7,fun k hk=>?_⟩⟩
   rw [r1 k hk,hEd]
   exact ⟨(k8 k hk).1,(k8 k hk).2.1,fun j lv v hj hv=>((k8 k hk).2.2 j lv v hj hv).keep (Nat.le_refl _) (fun _ _ _=>rfl) (fun b hb=>.inl (hown b hb)) (Nat.le_refl _)⟩
  ·obtain ⟨ad,cv,rfl,c1,c2,c3,c4⟩:=hA h0
   have hnl:(zd7 m sz cv).length=m * i.size:=by rw [zde,hsz]
   by_cases hroom:n+m≤cap
   ·-- there is room
    have hnm:n * sz+m * sz≤cap * sz:=by rw [← Nat.add_mul];exact Nat.mul_le_mul_right sz hroom
    let ei:EI:=⟨some b,(E id).off,some ⟨b,(E id).off,none⟩,n+m,cap,n+m⟩
    have hfit:(E id).off+n * sz+(zd7 m sz cv).length≤us.size:=by rw [zde];omega
    have hr:=zsw (P:=P) (w:=w) (ty:=o.type) (c:=capy) hu hi k4 (ad:=ad) (news:=zd7 m sz cv) (off:=(E id).off) (n:=n) hnl (fun j u h=>zir hsz1 c1 j u h) (zxu hsz1 c2 c3 c4) hroom (by rw [← hsz];exact hfit)
    rw [← hsz] at hr
    have hgetv : ∀ j : Nat, (us.toList.take ((E id).off + n * sz) ++ zd7 m sz cv ++ us.toList.drop ((E id).off + n * sz + (zd7 m sz cv).length)).toArray[j]? =
        if (E id).off+n * sz≤j∧j<(E id).off+n * sz+(zd7 m sz cv).length then (zd7 m sz cv)[j - ((E id).off+n * sz)]? else us[j]?:=fun j=>by
     simp only [List.getElem?_toArray]
     rw [zhd _ _ _ _ (by simpa using hfit)]
     split<;>simp
    have hszn:(us.toList.take ((E id).off+n * sz)++zd7 m sz cv++us.toList.drop ((E id).off+n * sz+(zd7 m sz cv).length)).toArray.size=us.size:=by
     simp at hfit ⊢;omega
    generalize (us.toList.take ((E id).off+n * sz)++zd7 m sz cv++us.toList.drop ((E id).off+n * sz+(zd7 m sz cv).length)).toArray=news at hr hgetv hszn
    refine fin ei _ ?_ hr
    have hkeep:∀ b',b'<w.heap.size→¬ Own σ E X0 b'→(w.setRow b news).heap[b']?=w.heap[b']?:=fun b' _ hno=>setRow_other w b b' news (fun e=>hno (.inr ⟨id,.inl ⟨hbid,by rw [e];exact k1⟩⟩))
    have hown:∀ b',Own (σ.upd (killL [id]) (oneB d (.arr sz (n+m) row'))) (E.setF (one d (.arr sz (n+m) row') ei)) X0 b'→Own σ E X0 b':=fun b' hb'=>by
     rcases zgj zgd hb' with hq | hq
     ·exact hq
     ·simp only [ei,Option.some.injEq] at hq;subst hq;exact .inr ⟨id,.inl ⟨hbid,k1⟩⟩
    rw [← zdd d (.arr sz (n+m) row') ei,← FS.setF_eq]
    refine hs.set (killL [id]) d _ ei (.inl hd) zas (fun b' hb' hno => setRow_other w b b' news fun e => hno id (.inr (killL_mem.2 zas)) hbid (by rw [e]; exact k1))
      (fun b' hb'=>.inr ⟨id,.inr (killL_mem.2 zas),hbid,by simp only [ei,Option.some.injEq] at hb';rw [← hb'];exact k1⟩) (zfn hs.below k3) (fun c lv q hc=>by cases hc) ?_
    rw [FS.setF_eq,zdd]
    refine ⟨by rw [hEd],.inr ⟨b,cap,news,T',by rw [hEd],by rw [hEd];rfl,k3,setRow_heap w b us news T' (0,0) k4,hroom,k6,by rw [hEd,hszn];exact k7,fun k hk=>?_⟩⟩
    rw [hEd]
    by_cases hkn:k<n
    ·rw [r1 k hkn]
     refine ⟨(k8 k hkn).1,(k8 k hkn).2.1,fun j lv v hj hv=>?_⟩
     have hjs:j<sz:=by rw [← (k8 k hkn).1];exact (List.getElem?_eq_some_iff.1 hj).1
     have hlt:k * sz+sz≤n * sz:=by rw [← Nat.succ_mul];exact Nat.mul_le_mul_right sz hkn
     rw [show ei.off=(E id).off from rfl,hgetv,if_neg om] at hv
     exact ((k8 k hkn).2.2 j lv v hj hv).keep zas hkeep (fun b hb=>.inl (hown b hb)) (Nat.le_refl _)
    ·rw [r2 k om hk]
     have hkm:k - n<m:=by omega
     refine ⟨c2 _ hkm,c4 _ hkm,fun j lv v hj hv=>?_⟩
     have hjs:j<sz:=by rw [← c2 _ hkm];exact (List.getElem?_eq_some_iff.1 hj).1
     have e1:k * sz=n * sz+(k - n) * sz:=by rw [← Nat.add_mul];congr 1;omega
     have hlt:(k - n) * sz+sz≤m * sz:=by rw [← Nat.succ_mul];exact Nat.mul_le_mul_right sz hkm
     rw [show ei.off=(E id).off from rfl,hgetv,if_pos (by rw [zde];omega),show (E id).off+k * sz+j - ((E id).off+n * sz)=(k - n) * sz+j from by omega,zi9 hsz1 _ _ hkm hjs] at hv
     cases hv
     exact (c3 _ j lv hkm hj).keep zas hkeep (fun b hb=>.inl (hown b hb)) (Nat.le_refl _)
   ·-- it grows
    obtain ⟨z,hz1,hz2⟩:=hz
    obtain ⟨i',zv,g1,g2,g3,g4⟩:=zew hz1
    rw [hi] at g1;cases g1
    let olds:List Value:=(us.toList.drop (E id).off).take (n * sz)
    have hns:n * sz≤cap * sz:=Nat.mul_le_mul_right sz k5
    have hol:olds.length=n * i.size:=by rw [← hsz];simp [olds];omega
    have hog:∀ t,t<n * sz→olds[t]?=us[(E id).off+t]?:=fun t ht=>by
     simp only [olds,List.getElem?_take,if_pos ht,List.getElem?_drop,Array.getElem?_toList]
    have holds:∀ j u,olds[j]?=some u→w.cell? ((⟨b,(E id).off,none⟩:Addr).add j)=some u:=fun j u h=>by
     have hj:j<n * sz:=by
      have:=(List.getElem?_eq_some_iff.1 h).1
      rw [hol,← hsz] at this;exact this
     rw [hog j hj] at h
     rw [zc1]
     simp [World.cell?,k4,h]
    have hfits:Builtin.nextslicecap (n+m) cap * i.bytes≤281474976710656:=growslice_fits om hbd
    have hr:=run_append_grow (P:=P) w T o.type e i zv hu hi g2 ⟨b,(E id).off,none⟩ n cap olds hol holds ad m capy (zd7 m sz cv) hnl (fun j u h=>zir hsz1 c1 j u h) om om hfits
    have hge:=grownCap_ge w (n+m) cap e
    let ei:EI:=⟨some w.heap.size,0,some ⟨w.heap.size,0,none⟩,n+m,grownCap w (n+m) cap e,n+m⟩
    have hsz1':(olds.toArray++(zd7 m sz cv).toArray++Builtin.zeroCells zv.cells (grownCap w (n+m) cap e - (n+m))).size=grownCap w (n+m) cap e * sz:=by
     simp only [Array.size_append,List.size_toArray,hol,hnl,size_zeroCells,g3,hz2,← hsz]
     rw [← Nat.add_mul,← Nat.add_mul]
     congr 1;omega
    have hgO:∀ t,t<n * sz→(olds.toArray++(zd7 m sz cv).toArray++Builtin.zeroCells zv.cells (grownCap w (n+m) cap e - (n+m)))[t]?=us[(E id).off+t]?:=fun t ht=>by
     rw [Array.getElem?_append_left (by simp [hol,zde,← hsz];omega),Array.getElem?_append_left (by simp [hol,← hsz];omega),List.getElem?_toArray,hog t ht]
    have hgN:∀ t,t<m * sz→(olds.toArray++(zd7 m sz cv).toArray++Builtin.zeroCells zv.cells (grownCap w (n+m) cap e - (n+m)))[n * sz+t]?=(zd7 m sz cv)[t]?:=fun t ht=>by
     rw [Array.getElem?_append_left (by simp [hol,zde,← hsz];omega),Array.getElem?_append_right (by simp [hol,← hsz]),List.getElem?_toArray]
     congr 1
     simp [hol,← hsz]
    generalize olds.toArray++(zd7 m sz cv).toArray++Builtin.zeroCells zv.cells (grownCap w (n+m) cap e - (n+m))=news at hr hsz1' hgO hgN
    refine fin ei _ ?_ hr
    have hh:∀ b',b'<w.heap.size→(w.drew.alloc (.cells news e)).heap[b']?=w.heap[b']?:=fun b' hb'=>Below.heap_alloc w.drew _ _ hb'
    have hown:∀ b',Own (σ.upd (killL [id]) (oneB d (.arr sz (n+m) row'))) (E.setF (one d (.arr sz (n+m) row') ei)) X0 b'→Own σ E X0 b'∨w.heap.size≤b':=fun b' hb'=>by
     rcases zgj zgd hb' with hq | hq
     ·exact .inl hq
     ·simp only [ei,Option.some.injEq] at hq;exact .inr om
    rw [← zdd d (.arr sz (n+m) row') ei,← FS.setF_eq]
    refine hs.set (killL [id]) d _ ei (.inl hd) zas (fun b' hb' _=>hh b' hb') (fun b' hb'=>.inl (by simp only [ei,Option.some.injEq] at hb';omega)) (hs.below.drew.alloc hs.below.size _) (fun c lv q hc=>by cases hc) ?_
    rw [FS.setF_eq,zdd]
    refine ⟨by rw [hEd],.inr ⟨w.heap.size,grownCap w (n+m) cap e,news,e,by rw [hEd],by rw [hEd];rfl,hs.below.size,heap_alloc_new w.drew _,hge,grownCap_le_maxLen w (n+m) cap e (by unfold maxLen;omega),by rw [hEd];simp only [ei];omega,fun k hk=>?_⟩⟩
    rw [hEd]
    by_cases hkn:k<n
    ·rw [r1 k hkn]
     refine ⟨(k8 k hkn).1,(k8 k hkn).2.1,fun j lv v hj hv=>?_⟩
     have hjs:j<sz:=by rw [← (k8 k hkn).1];exact (List.getElem?_eq_some_iff.1 hj).1
     have hlt:k * sz+sz≤n * sz:=by rw [← Nat.succ_mul];exact Nat.mul_le_mul_right sz hkn
     rw [show ei.off=0 from rfl,Nat.zero_add,hgO _ om,← Nat.add_assoc] at hv
     exact ((k8 k hkn).2.2 j lv v hj hv).keep zas (fun b hb _=>hh b hb) hown (Nat.le_refl _)
    ·rw [r2 k om hk]
     have hkm:k - n<m:=by omega
     refine ⟨c2 _ hkm,c4 _ hkm,fun j lv v hj hv=>?_⟩
     have hjs:j<sz:=by rw [← c2 _ hkm];exact (List.getElem?_eq_some_iff.1 hj).1
     have e1:k * sz=n * sz+(k - n) * sz:=by rw [← Nat.add_mul];congr 1;omega
     have hlt:(k - n) * sz+sz≤m * sz:=by rw [← Nat.succ_mul];exact Nat.mul_le_mul_right sz hkm
     rw [show ei.off=0 from rfl,Nat.zero_add,show k * sz+j=n * sz+((k - n) * sz+j) from by omega,hgN _ om,zi9 hsz1 _ _ hkm hjs] at hv
     cases hv
     exact (c3 _ j lv hkm hj).keep zas (fun b hb _=>hh b hb) hown (Nat.le_refl _)

theorem z2a (hs : Sat N w0 X0 σ E a w) {o : Oper} {f : Operand} {args : Array Operand} {tys : Array TypeId} (ho : o.op = .call { callee := .value f, args, argTypes := tys }) {d : Nat} {g : Nat} {p q : List Prop}
    (hf:ev σ.slot f=some (.fn g,p)) (hp:All p) {xs ys:List LV} (hx:evs σ.slot args.toList=some (xs,q)) (hq:All q) (hc:zjw σ.blk xs=some ys) {fn:Func} (hfn:P.funcs[g]?=some fn) (hbody:fn.body.isSome=true)
    (hname : (fn.name == "runtime.NumGoroutine") = false) {r : LV} {arrs : List BC} (hF : Fn P g ys r arrs) (hnew : ∀ j, resB d arrs j ≠ none → σ.used j = false) (nw : List Nat) (pp : List Prop) :
    MOk P N w0 X0 σ a w o ⟨some (ren (resId d) r),noK,resB d arrs,nw,pp⟩:=by
 intro K Q hk
 have e1:=(zbk hs hf hp).1.fn_inv
 obtain ⟨h1,h2⟩:=zg5 hs hx hq
 obtain ⟨c1,c2⟩:=zq5 hs hc
 have hbn:fn.body.isNone=false:=by cases h:fn.body<;>simp_all
 have hrun:(execOp a.eval o).run P w=.ok (.enter g (args.map a.eval)) w:=by
  simp only [execOp,ho,Sem.run_bind,resolve,e1,Deferred.ofValue,Sem.run_pure,Result.andThen_ok,invoke,callFunc,run_program,hfn,hname,Bool.false_eq_true,if_false,hbn,Array.append_empty]
  simp
 unfold Oper.wp
 rw [hrun]
 show Calls P g (args.map a.eval) w _
 have:=hF w (args.toList.map a.eval) (hs.gh.below hs.below) (by rw [List.length_map];omega) (fun i lv v hlv hv=>by
  obtain ⟨z,hz,hzz⟩:=c2 i lv hlv
  obtain ⟨x,hx1,hx2,_⟩:=h2 i z hz
  simp only [List.getElem?_map,hx1,Option.map_some,Option.some.injEq] at hv
  subst hv
  exact hzz _ hx2)
 rw [show (args.map a.eval)=(args.toList.map a.eval).toArray from by rw [← Array.toList_map]]
 refine this.mono fun e w' hh=>?_
 obtain ⟨v,rfl,hb,hr⟩:=hh
 obtain ⟨E',g1,g2,g3⟩:=hs.called hb hr d hnew
 refine hk v w' E' g1 (fun h=>by cases h) fun lv hlv=>?_
 cases hlv
 exact ⟨g2,g3⟩

theorem zzr (hs : Sat N w0 X0 σ E a w) {o : Oper} {f : Operand} {args : Array Operand} {tys : Array TypeId} (ho : o.op = .call { callee := .value f, args, argTypes := tys }) {d : Nat} {g : Nat} {cs : List LV} {p q : List Prop}
    (hf:ev σ.slot f=some (.clo g cs,p)) (hp:All p) {xs ys:List LV} (hx:evs σ.slot args.toList=some (xs,q)) (hq:All q) (hc:zjw σ.blk (xs++cs)=some ys) {fn:Func} (hfn:P.funcs[g]?=some fn) (hbody:fn.body.isSome=true)
    (hname : (fn.name == "runtime.NumGoroutine") = false) {r : LV} {arrs : List BC} (hF : Fn P g ys r arrs) (hnew : ∀ j, resB d arrs j ≠ none → σ.used j = false) (nw : List Nat) (pp : List Prop) :
    MOk P N w0 X0 σ a w o ⟨some (ren (resId d) r),noK,resB d arrs,nw,pp⟩:=by
 intro K Q hk
 obtain ⟨vs,e1,hl,hcap⟩:=(zbk hs hf hp).1.clo_inv
 obtain ⟨h1,h2⟩:=zg5 hs hx hq
 obtain ⟨c1,c2⟩:=zq5 hs hc
 have hbn:fn.body.isNone=false:=by cases h:fn.body<;>simp_all
 have hrun:(execOp a.eval o).run P w=.ok (.enter g (args.map a.eval++vs)) w:=by
  simp only [execOp,ho,Sem.run_bind,resolve,e1,Deferred.ofValue,Sem.run_pure,Result.andThen_ok,invoke,callFunc,run_program,hfn,hname,Bool.false_eq_true,if_false,hbn,Array.append_empty]
  simp
 unfold Oper.wp
 rw [hrun]
 show Calls P g (args.map a.eval++vs) w _
 have hlen:args.toList.length=xs.length:=h1
 have hsz:args.size=xs.length:=by simpa using hlen
 have hvl:vs.toList.length=cs.length:=by simpa using hl
 have:=hF w (args.toList.map a.eval++vs.toList) (hs.gh.below hs.below) (by rw [List.length_append,List.length_map,c1,List.length_append];omega) (fun i lv v hlv hv=>by
  obtain ⟨z,hz,hzz⟩:=c2 i lv hlv
  by_cases hi:i<xs.length
  ·rw [List.getElem?_append_left hi] at hz
   obtain ⟨x,hx1,hx2,_⟩:=h2 i z hz
   rw [List.getElem?_append_left (by rw [List.length_map];omega)] at hv
   simp only [List.getElem?_map,hx1,Option.map_some,Option.some.injEq] at hv
   subst hv
   exact hzz _ hx2
  ·rw [List.getElem?_append_right om] at hz
   rw [List.getElem?_append_right (by rw [List.length_map];omega),List.length_map,hlen,Array.getElem?_toList] at hv
   exact hzz _ (hcap _ z v hz hv))
 rw [show (args.map a.eval++vs)=(args.toList.map a.eval++vs.toList).toArray from by rw [← List.toArray_appendList];simp]
 refine this.mono fun e w' hh=>?_
 obtain ⟨v,rfl,hb,hr⟩:=hh
 obtain ⟨E',g1,g2,g3⟩:=hs.called hb hr d hnew
 refine hk v w' E' g1 (fun h=>by cases h) fun lv hlv=>?_
 cases hlv
 exact ⟨g2,g3⟩

theorem zv2 (hs:Sat N w0 X0 σ E a w) {d:Nat} {x:Option Operand} {n:Int} {p:List Prop} (h:optN σ.slot d x=some (n,p)) (ha:All p):(x=none∧n=(d:Int))∨∃ o k,x=some o∧a.eval o=.int k n:=by
 unfold optN at h
 split at h
 ·cases h;exact .inl ⟨rfl,rfl⟩
 ·rename_i o
  split at h
  ·rename_i k n' p' he
   cases h
   exact .inr ⟨o,k,rfl,(zbk hs he ha).1.int_inv⟩
  ·cases h
theorem zjk (hs : Sat N w0 X0 σ E a w) {lo hi : Option Operand} {l h : Int} {p q : List Prop} {len cap : Nat} {b : Bool} (h1 : optN σ.slot 0 lo = some (l, p)) (h2 : optN σ.slot len hi = some (h, q)) (hp : All p) (hq : All q)
    (h0:0≤l) (hlh:l≤h) (hh:h≤(len:Int)) (hc:len≤cap):(Instr.sliceBounds b len cap (lo.map a.eval) (hi.map a.eval) none).run P w=.ok (l.toNat,h.toNat,cap) w:=by
 have eh:(h.toNat:Int)=h:=Int.toNat_of_nonneg om
 rcases zv2 hs h1 hp with ⟨rfl,rfl⟩ | ⟨o1,k1,rfl,e1⟩<;>rcases zv2 hs h2 hq with ⟨rfl,rfl⟩ | ⟨o2,k2,rfl,e2⟩
 ·simp [Instr.sliceBounds]
 ·simp [Instr.sliceBounds,e2,run_sliceBound w k2 h cap _ om om]
 ·simp [Instr.sliceBounds,e1,run_sliceBound w k1 l len _ h0 om]
 ·simp [Instr.sliceBounds,e1,e2,run_sliceBound w k2 h cap _ om om,run_sliceBound w k1 l h.toNat _ h0 om]
theorem zn4 {T e : Nat} (hu : P.underlying T = some (.slice e)) {s : Nat} (hz : szOf P e = some s) {A : Option Addr} {len cap : Nat} {lo hi : Option Value} {l h m : Nat} (hb : (Instr.sliceBounds true len cap lo hi none).run P w = .ok (l, h, m) w) :
    (Instr.sliceAt T (.slice A len cap) lo hi none).run P w = .ok (.slice (if m = l then A else A.map (·.add (l * s))) (h - l) (m - l)) w := by
 rw [run_sliceAt_slice (t:=T) (h:=z0l hu)]
 simp [Instr.slice,run_underlying hu,hb,zds hz]

theorem zrw (hs : Sat N w0 X0 σ E a w) {o : Oper} {d T : Nat} {x : Operand} {lo hi : Option Operand} (ho : o.op = .slice T x lo hi none) {e : Nat} (hu : P.underlying T = some (.slice e)) {id sz n : Nat} {row : Nat → List LV}
    (hx:RepV w w0.heap.size (Own σ E X0) E (.own id) (a.eval x)) (hb:σ.blk id=some (.arr sz n row)) (hz:szOf P e=some sz) {l h:Int} {p q:List Prop} (h1:optN σ.slot 0 lo=some (l,p)) (h2:optN σ.slot n hi=some (h,q)) (hp:All p) (hq:All q)
    (h0:0≤l) (hlh:l≤h) (hh:h≤(n:Int)) (hd:σ.used d=false) (nw:List Nat) (pp:List Prop) :
    MOk P N w0 X0 σ a w o ⟨some (.own d),killL [id],oneB d (.arr sz (h.toNat - l.toNat) (fun k=>row (l.toNat+k))),nw,pp⟩:=by
 have hbid:σ.blk id≠none:=by rw [hb];simp
 have he:=hx.own_inv
 obtain ⟨hn,hk0⟩:=hs.blks id _ hb
 intro K Q hk
 have hEo:∀ (c:BC) (ei:EI) (j:Nat),σ.blk j≠none→(E.setF (one d c ei)) j=E j:=fun c ei j hj=>by
  have:j≠d:=fun e=>hj (e ▸ zea hs hd)
  simp [Env.setF,one,this]
 have hEd:∀ (c:BC) (ei:EI),(E.setF (one d c ei)) d=ei:=fun c ei=>by simp [Env.setF,one]
 have fin:∀ (c:BC) (ei:EI),Sat N w0 X0 (σ.upd (killL [id]) (oneB d c)) (E.setF (one d c ei)) a w→(execOp a.eval o).run P w=.ok (.value ei.val) w→c=.arr sz (h.toNat - l.toNat) (fun k=>row (l.toNat+k))→o.wp P a w K Q:=fun c ei hS hr hc=>by
  subst hc
  refine zd3 hr (hk _ _ _ hS (fun h=>by cases h) fun lv hlv=>?_)
  cases hlv
  refine ⟨?_,fun id hmm=>by cases hmm;simp [FS.upd,oneB]⟩
  have := RepV.own (w := w) (B := w0.heap.size) (X := Own (σ.upd (killL [id]) (oneB d (.arr sz (h.toNat - l.toNat) (fun k => row (l.toNat + k))))) (E.setF (one d (.arr sz (h.toNat - l.toNat) (fun k => row (l.toNat + k))) ei)) X0)
    (E:=E.setF (one d (.arr sz (h.toNat - l.toNat) (fun k=>row (l.toNat+k))) ei)) d
  rw [hEd] at this
  exact this
 rcases hk0 with ⟨k1,k2,k3⟩ | ⟨b,cap,us,T',k1,k2,k3,k4,k5,k6,k7,k8⟩
 ·subst k3
  have hl0:l=0:=by omega
  have hh0:h=0:=by omega
  subst hl0;subst hh0
  let ei:EI:=⟨none,0,none,0,0,0⟩
  refine fin _ ei ?_ ?_ rfl
  ·rw [← zdd d _ ei,← FS.setF_eq]
   exact hs.set (killL [id]) d _ ei (.inl hd) (Nat.le_refl _) (fun _ _ _=>rfl) (fun b hb=>by cases hb) hs.below (fun c lv q hc=>by cases hc) ⟨by rw [hEd];rfl,.inl ⟨by rw [hEd],by rw [hEd];rfl,rfl⟩⟩
  ·have hbr:=zjk (P:=P) (cap:=0) (b:=true) hs h1 h2 hp hq h0 hlh hh (Nat.le_refl _)
   have:=zn4 (P:=P) hu hz (A:=none) hbr
   simp only [execOp,ho,Sem.run_bind,he,k2,Option.map_none]
   rw [this]
   rfl
 ·have hbr:=zjk (P:=P) (cap:=cap) (b:=true) hs h1 h2 hp hq h0 hlh hh k5
  have hsl:=zn4 (P:=P) hu hz (A:=some ⟨b,(E id).off,none⟩) hbr
  let ei:EI:=⟨some b,if cap=l.toNat then (E id).off else (E id).off+l.toNat * sz,some (if cap=l.toNat then ⟨b,(E id).off,none⟩ else ⟨b,(E id).off+l.toNat * sz,none⟩),h.toNat - l.toNat,cap - l.toNat,h.toNat - l.toNat⟩
  have hval:ei.val=.slice (some ⟨b,ei.off,none⟩) (h.toNat - l.toNat) (cap - l.toNat):=by
   simp only [EI.val,ei];split<;>rfl
  refine fin _ ei ?_ ?_ rfl
  ·have hown:∀ b',Own (σ.upd (killL [id]) (oneB d (.arr sz (h.toNat - l.toNat) (fun k=>row (l.toNat+k))))) (E.setF (one d (.arr sz (h.toNat - l.toNat) (fun k=>row (l.toNat+k))) ei)) X0 b'→Own σ E X0 b':=fun b' hb'=>by
    rcases zgj zgd hb' with hq | hq
    ·exact hq
    ·simp only [ei,Option.some.injEq] at hq;subst hq;exact .inr ⟨id,.inl ⟨hbid,k1⟩⟩
   rw [← zdd d _ ei,← FS.setF_eq]
   refine hs.set (killL [id]) d _ ei (.inl hd) (Nat.le_refl _) (fun _ _ _=>rfl) (fun b' hb'=>.inr ⟨id,.inr (killL_mem.2 zas),hbid,by simp only [ei,Option.some.injEq] at hb';rw [← hb'];exact k1⟩) hs.below (fun c lv q hc=>by cases hc) ?_
   rw [FS.setF_eq,zdd]
   have hlc:l.toNat≤cap:=by omega
   refine ⟨by rw [hEd],.inr ⟨b,cap - l.toNat,us,T',by rw [hEd],by rw [hEd];exact hval,k3,k4,om,om,?_,fun k hk=>?_⟩⟩
   ·rw [hEd]
    have:l.toNat * sz+(cap - l.toNat) * sz=cap * sz:=by rw [← Nat.add_mul];congr 1;omega
    simp only [ei]
    split
    ·rename_i hc;rw [hc];simp;omega
    ·omega
   ·rw [hEd]
    have hkn:l.toNat+k<n:=by omega
    obtain ⟨m1,m2,m3⟩:=k8 _ hkn
    refine ⟨m1,m2,fun j lv v hj hv=>?_⟩
    have hcn:¬ cap=l.toNat:=by omega
    have hoff:ei.off=(E id).off+l.toNat * sz:=by simp [ei,hcn]
    rw [hoff,show (E id).off+l.toNat * sz+k * sz+j=(E id).off+(l.toNat+k) * sz+j from by rw [Nat.add_mul];omega] at hv
    exact (m3 j lv v hj hv).keep (Nat.le_refl _) (fun _ _ _=>rfl) (fun b hb=>.inl (hown b hb)) (Nat.le_refl _)
  ·simp only [execOp,ho,Sem.run_bind,he,k2,Option.map_none]
   rw [hsl]
   simp only [Result.andThen_ok,Sem.run_pure,hval]
   congr 3
   simp only [ei]
   split
   ·rfl
   ·rw [Option.map_some,zc1]

theorem zvq {e:Nat} {i:TypeInfo} (h:zOk P e i=true):∃ z,zeroL P e=some z∧z.length=i.size:=by
 unfold zOk at h
 split at h
 ·rename_i z hz;exact ⟨z,hz,Nat.eq_of_beq_eq_true h⟩
 ·cases h

theorem All.getRange {len:Nat} {f:Nat→Prop} (h:All ((List.range len).map f)):∀ i,i<len→f i:=by
 intro i hi
 have key:∀ (l:List Nat),All (l.map f)→∀ x∈l,f x:=by
  intro l
  induction l with
  | nil=>intro _ x hx;simp at hx
  | cons y l ih =>
   intro h x hx
   rcases List.mem_cons.1 hx with rfl | hx
   ·exact h.1
   ·exact ih h.2 x hx
 exact key _ h i (by simpa using hi)

theorem zq4 {c:Bool} {α:Type} {x y:α} (h:(bif c then some x else none)=some y):c=true∧x=y:=by
 cases c with
 | true=>exact ⟨rfl,by simpa using h⟩
 | false=>cases h

theorem zwc {kd:KD} {lv:LV} {k:KV} (h:keyL kd lv=some k) {B:Nat} {X:Nat→Prop} {v:Value} (hr:RepV w B X E lv v):kd.key v=some k:=by
 unfold keyL at h
 split at h
 ·cases h;rw [hr.str_inv];simp [KD.key]
 ·rw [hr.int_inv];exact h
 ·cases h
  obtain ⟨vs,rfl,hl,hh⟩:=hr.agg_inv
  obtain ⟨l⟩:=vs
  match l,hl with
  | [x,y],_ =>
   have h1:=(hh 0 _ x rfl rfl).int_inv
   have h2:=(hh 1 _ y rfl rfl).int_inv
   subst h1;subst h2
   rfl
 ·cases h
theorem zzu {V : TypeId} {m : MV} (h : mapTy P V m = true) (w : World) : ∃ z, (zeroValue V).run P w = .ok z w ∧ match m with
    | .b _=>z=.bool false
    | .i _=>z=.int .i64 0:=by
 cases m with
 | b f =>
  simp only [mapTy,zero1] at h
  cases hi:P.info? V with
  | none=>simp [hi] at h
  | some i =>
   simp only [hi] at h
   split at h
   ·rename_i hz;exact ⟨.bool false,by simp [zeroValue,typeInfo,hi,hz],rfl⟩
   ·cases h
 | i f =>
  simp only [mapTy,zero1] at h
  cases hi:P.info? V with
  | none=>simp [hi] at h
  | some i =>
   simp only [hi] at h
   split at h
   ·rename_i hz;exact ⟨.int .i64 0,by simp [zeroValue,typeInfo,hi,hz],rfl⟩
   ·cases h
theorem zqa (hs : Sat N w0 X0 σ E a w) {o : Oper} {T : TypeId} {x i : Operand} {ok : Bool} (ho : o.op = .lookup T x i ok) {K V : TypeId} (ht : P.underlying T = some (.map K V)) {kd : KD} {m : MV} {b : Nat} {es : Array MapEntry} {ck : Nat} (g2 : a.eval x = .map (some b)) (k3 : w.heap[b]? = some (.map es ck)) (k4 : MapOk kd m es)
    {kv:LV} {k:KV} (hi:RepV w w0.heap.size (Own σ E X0) E kv (a.eval i)) (hk:keyL kd kv=some k) (hkd:kdOk P K kd=true) (hm:mapTy P V m=true):VOk P w0 X0 σ E a w o (lookL m k ok):=by
 obtain ⟨z,hz,hz2⟩:=zzu hm w
 have hrun:=zuh ht hkd k3 k4 (zwc hk hi) hz ok
 refine ⟨_,by simp only [execOp,ho,Sem.run_bind,g2,hrun,Result.andThen_ok,Sem.run_pure];rfl,?_,fun id' hmm=>?_⟩
 ·cases m with
  | b f =>
   simp only at hz2
   subst hz2
   have e:((MV.b f).val k).getD (.bool false)=.bool ((f k).getD false):=by simp only [MV.val];cases f k<;>rfl
   have e2:((MV.b f).val k).isSome=(f k).isSome:=by simp [MV.val]
   rw [e,e2]
   cases ok with
   | false=>exact .c _ _ (.bool _)
   | true =>
    refine .c _ _ (.tup _ _ rfl fun i lv v hl hv=>?_)
    match i with
    | 0=>simp at hl hv;subst hl;subst hv;exact .bool _
    | 1=>simp at hl hv;subst hl;subst hv;exact .bool _
    | i+2=>simp at hl
  | i f =>
   simp only at hz2
   subst hz2
   have e:((MV.i f).val k).getD (.int .i64 0)=.int .i64 ((f k).getD 0):=by simp only [MV.val];cases f k<;>rfl
   have e2:((MV.i f).val k).isSome=(f k).isSome:=by simp [MV.val]
   rw [e,e2]
   cases ok with
   | false=>exact .c _ _ (.int _ _)
   | true =>
    refine .c _ _ (.tup _ _ rfl fun i lv v hl hv=>?_)
    match i with
    | 0=>simp at hl hv;subst hl;subst hv;exact .int _ _
    | 1=>simp at hl hv;subst hl;subst hv;exact .bool _
    | i+2=>simp at hl
 ·exfalso
  cases m<;>cases ok<;>simp only [lookL,cond_true,cond_false] at hmm
  ·cases hmm
  ·cases hmm with
   | tup _ y _ hy hm'=>simp at hy;rcases hy with rfl | rfl<;>cases hm'
  ·cases hmm
  ·cases hmm with
   | tup _ y _ hy hm'=>simp at hy;rcases hy with rfl | rfl<;>cases hm'

theorem zxw (hs : Sat N w0 X0 σ E a w) {o : Oper} {d : Nat} {T : TypeId} (ho : o.op = .makeMap T none) {K V : TypeId} (ht : P.underlying T = some (.map K V)) (hi : σ.used d = false) (kd : KD) (nw : List Nat) (p : List Prop) :
    MOk P N w0 X0 σ a w o ⟨some (.mp d),noK,oneB d (.mp kd (newMV P V)),nw,p⟩:=by
 intro K' Q hk
 have hm:MapOk kd (newMV P V) #[]:=by
  refine ⟨fun e he=>by simp at he,fun k=>?_⟩
  unfold newMV
  split<;>rfl
 obtain ⟨E',h1,h2⟩:=hs.newMap hi kd (newMV P V) #[] 0 hm
 have hrun:(execOp a.eval o).run P w=.ok (.value (.map (some w.heap.size))) (w.alloc (.map #[] 0)):=by
  simp only [execOp,ho,Sem.run_bind,Instr.makeMap,run_newObj,Result.andThen_ok,Sem.run_pure,Option.map_none]
  rfl
 refine zd3 hrun (hk _ _ E' h2 (fun h=>by cases h) fun lv hlv=>?_)
 cases hlv
 exact ⟨.mp d w.heap.size h1,fun id hmm=>by cases hmm;simp [FS.upd,oneB]⟩

theorem z11 {m m':MV} {k:KV} {v:LV} (h:m.setL k v=some m') {B:Nat} {X:Nat→Prop} {u:Value} (hr:RepV w B X E v u):∀ k',m'.val k'=if k'=k then some u else m.val k':=by
 intro k'
 unfold MV.setL at h
 split at h
 ·cases h
  rw [hr.bool_inv]
  simp only [MV.val,mset]
  split<;>simp_all
 ·cases h
  rw [hr.int_inv]
  simp only [MV.val,mset]
  split<;>simp_all
 ·cases h

theorem zqq (hs : Sat N w0 X0 σ E a w) {o : Oper} {T : TypeId} {x i y : Operand} (ho : o.op = .mapUpdate T x i y ∨ o.op = .insert T x i y) (hd : o.dst = none) {K V : TypeId} (ht : P.underlying T = some (.map K V)) {id : Nat} {kd : KD} {m m' : MV}
    (hx:RepV w w0.heap.size (Own σ E X0) E (.mp id) (a.eval x)) (hb:σ.blk id=some (.mp kd m)) {kv v:LV} {k:KV} (hi:RepV w w0.heap.size (Own σ E X0) E kv (a.eval i)) (hk:keyL kd kv=some k)
    (hy:RepV w w0.heap.size (Own σ E X0) E v (a.eval y)) (hkd:kdOk P K kd=true) (hm:m.setL k v=some m') (nw:List Nat) (p:List Prop):MOk P N w0 X0 σ a w o ⟨none,noK,oneB id (.mp kd m'),nw,p⟩:=by
 intro K' Q hkk
 obtain ⟨b,g1,g2⟩:=hx.mp_inv
 obtain ⟨b',es,ck,k1,k2,k3,k4⟩:=hs.blks id _ hb
 rw [g1] at k1;cases k1
 obtain ⟨es',ck',hrun,q1,q2⟩:=zpu (x:=a.eval y) ht hkd k3 k4.1 (zwc hk hi)
 have hset:=MapKept.heap_set (o':=.map es' ck') k3
 have hr:(execOp a.eval o).run P w=.ok .skip { w with heap:=w.heap.setIfInBounds b (.map es' ck') }:=by
  rcases ho with ho | ho<;>simp only [execOp,ho,Sem.run_bind,g2,hrun,Result.andThen_ok,Sem.run_pure]
 have hE:∀ i,(E.setF (one id (.mp kd m') (E id))) i=E i:=fun i=>by
  by_cases e:i=id
  ·subst e;simp [Env.setF,one]
  ·simp [Env.setF,one,e]
 refine zrc hr (hkk undef _ (E.setF (one id (.mp kd m') (E id))) ?_ (fun _=>rfl) fun lv h=>by cases h)
 rw [← zdd id (.mp kd m') (E id),← FS.setF_eq]
 have hbl:b<w.heap.size:=(Array.getElem?_eq_some_iff.1 k3).1
 refine hs.set noK id _ (E id) (.inr ⟨rfl, by rw [hb]; simp⟩) zas (fun b' hb' hno => hset.2 b' fun e => hno id (.inl rfl) (by rw [hb]; simp) (by rw [e]; exact g1)) (fun b' hb' => .inr ⟨id, .inl rfl, by rw [hb]; simp, hb'⟩)
   ⟨hs.below.os,hs.below.tape,hs.below.output,by simpa using hs.below.size,fun j hj=>by rw [hset.2 j om];exact hs.below.block j hj⟩ (fun cells lv i hc=>by cases hc) ?_
 refine ⟨b,es',ck',by rw [hE];exact g1,k2,hset.1,q1,fun k'=>?_⟩
 rw [q2 k',z11 hm hy k',k4.2 k']

theorem zlc {i : Nat} : ∀ {ids : List Nat}, i ∈ ids → ids[idxOf ids i]? = some i
  | x :: r,h=>by
    simp only [idxOf]
    cases hb:Nat.beq x i with
    | true=>have:=Nat.eq_of_beq_eq_true hb;subst this;simp
    | false =>
      simp only [cond_false,List.getElem?_cons_succ]
      rcases List.mem_cons.1 h with rfl | h
      · rw [Nat.beq_refl] at hb;cases hb
      · exact zlc h
theorem zov : ∀ {ids : List Nat}, zs8 ids = true → ∀ (k l i : Nat), ids[k]? = some i → ids[l]? = some i → k = l
  | [],_,k,l,i,h,_=>by simp at h
  | x :: r,hn,k,l,i,h1,h2=>by
    simp only [zs8,Bool.and_eq_true,Bool.not_eq_true'] at hn
    have hx:∀ m,r[m]?≠some x:=fun m hm=>by
      have:=killL_mem.2 (List.mem_of_getElem? hm)
      rw [hn.1] at this;cases this
    cases k with
    | zero =>
      cases l with
      | zero=>rfl
      | succ l=>simp at h1 h2;subst h1;exact absurd h2 (hx l)
    | succ k =>
      cases l with
      | zero=>simp at h1 h2;subst h2;exact absurd h1 (hx k)
      | succ l=>rw [zov hn.2 k l i (by simpa using h1) (by simpa using h2)]
theorem zro {blk : Nat → Option BC} {ids : List Nat} : ∀ {l : List Nat} {bl : List BC}, preL blk ids l = some bl → bl.length = l.length ∧ ∀ (k i : Nat), l[k]? = some i → ∃ c, blk i = some c ∧ varIn (killL ids) c = true ∧ bl[k]? = some (renB (inM ids) c)
  | [],bl,h=>by cases h;exact ⟨rfl,fun k i h=>by simp at h⟩
  | x :: r,bl,h=>by
    simp only [preL] at h
    split at h
    · rename_i c l h1 h2
      obtain ⟨hc,h⟩:=zq4 h
      subst h
      obtain ⟨g1,g2⟩:=zro h2
      refine ⟨by simp [g1],fun k i hk=>?_⟩
      cases k with
      | zero=>simp at hk;subst hk;exact ⟨c,h1,hc,by simp⟩
      | succ k=>simpa using g2 k i (by simpa using hk)
    · cases h

set_option maxHeartbeats 1000000 in
theorem zk2 (hs : Sat N w0 X0 σ E a w) {o : Oper} {f : Operand} {args : Array Operand} {tys : Array TypeId} (ho : o.op = .call { callee := .value f, args, argTypes := tys }) {g : Nat} {p pp : List Prop} {xs cs : List LV}
    (hfv:All p→∃ vs:Array Value,a.eval f=.func (.func g) #[] vs∧vs.size=cs.length∧∀ (i:Nat) lv u,cs[i]?=some lv→vs[i]?=some u→RepV w w0.heap.size (Own σ E X0) E lv u) (hx:∃ q,evs σ.slot args.toList=some (xs,q)∧pp=p++q) {dst:Bool} {d:Nat} {ids:List Nat} {rbl:List (Nat×BC)} {r:LV} {D:MD}
    (hD:callM P σ.blk g (xs++cs) pp dst d ids rbl r=some D) (hvc:All D.vcs) (hnew:∀ i∈D.new,σ.used i=false) (hdst:dst=false→o.dst=none):MOk P N w0 X0 σ a w o D:=by
 obtain ⟨q,hx,rfl⟩:=hx
 unfold callM at hD
 split at hD
 case h_2=>cases hD
 rename_i bl fn hbl hfn
 obtain ⟨hc,hD⟩:=zq4 hD
 subst hD
 simp only [Bool.and_eq_true,Bool.not_eq_true'] at hc
 obtain ⟨hname,hnd,hxm,hkeys⟩:=hc
 obtain ⟨hpq,hF,_⟩:=All.append.1 hvc
 obtain ⟨hp,hq⟩:=All.append.1 hpq
 obtain ⟨b1,b2⟩:=zro hbl
 -- the names
 let Ec:Env:=⟨fun i=>bif Nat.ble 900000 i then E (ids.getD (i - 900000) 0) else ⟨none,0,none,0,0,0⟩,fun i=>bif Nat.ble 900000 i then E.s (ids.getD (i - 900000) 0) else fun _=>False⟩
 have hin:∀ id,id∈ids→Ec (inM ids id)=E id:=fun id hid=>by
  have h1:=zlc hid
  have h2:Nat.ble 900000 (inM ids id)=true:=Nat.ble_eq_true_of_le (by unfold inM;omega)
  show (bif Nat.ble 900000 (inM ids id) then E (ids.getD (inM ids id - 900000) 0) else _)=_
  rw [h2]
  simp only [cond_true,inM,show 900000+idxOf ids id - 900000=idxOf ids id by omega,List.getD_eq_getElem?_getD,h1,Option.getD_some]
 have hpre:∀ i,preB bl i≠none→∃ k id,i=900000+k∧ids[k]?=some id∧Ec i=E id∧∃ c,σ.blk id=some c∧varIn (killL ids) c=true∧preB bl i=some (renB (inM ids) c):=fun i hi=>by
  unfold preB at hi ⊢
  cases hb:Nat.ble 900000 i with
  | false=>rw [hb] at hi;exact absurd rfl hi
  | true =>
   have h9:=Nat.le_of_ble_eq_true hb
   rw [hb] at hi
   simp only [cond_true] at hi ⊢
   have hlt:i - 900000<bl.length:=by
    rcases Nat.lt_or_ge (i - 900000) bl.length with h | h
    ·exact h
    ·exact absurd (List.getElem?_eq_none h) hi
   have hk:ids[i - 900000]?=some (ids[i - 900000]' om):=List.getElem?_eq_getElem om
   obtain ⟨c,h1,h2,h3⟩:=b2 _ _ hk
   refine ⟨i - 900000,_,om,hk,?_,c,h1,h2,h3⟩
   show (bif Nat.ble 900000 i then E (ids.getD (i - 900000) 0) else _)=_
   rw [hb]
   simp only [cond_true,List.getD_eq_getElem?_getD,hk,Option.getD_some]
 have hsub:∀ k id,ids[k]?=some id→Ec.s (900000+k)=E.s id:=fun k id hk=>by
  show (bif Nat.ble 900000 (900000+k) then E.s (ids.getD (900000+k - 900000) 0) else _)=_
  rw [show Nat.ble 900000 (900000+k)=true from Nat.ble_eq_true_of_le om,show 900000+k - 900000=k by omega]
  simp only [cond_true,List.getD_eq_getElem?_getD,hk,Option.getD_some]
 have hpre2:∀ id,id∈ids→preB bl (inM ids id)≠none∧σ.blk id≠none:=fun id hid=>by
  obtain ⟨c,h1,h2,h3⟩:=b2 _ _ (zlc hid)
  refine ⟨?_,by rw [h1];simp⟩
  unfold preB
  rw [show Nat.ble 900000 (inM ids id)=true from Nat.ble_eq_true_of_le (by unfold inM;omega)]
  simp only [cond_true,inM,show 900000+idxOf ids id - 900000=idxOf ids id by omega,h3]
  simp
 have hlive:∀ k id,ids[k]?=some id→σ.blk id≠none:=fun k id hk=>(hpre2 id (List.mem_of_getElem? hk)).2
 have hat:∀ i b,OwnAt (preB bl) Ec i b→∃ k id,i=900000+k∧ids[k]?=some id∧OwnAt σ.blk E id b:=fun i b hb=>by
  obtain ⟨k,id,rfl,h1,h2,c,h3,_,h5⟩:=hpre i hb.ne
  refine ⟨k,id,rfl,h1,?_⟩
  rcases hb with ⟨_,hb⟩ | ⟨hm,hb⟩
  ·rw [h2] at hb;exact .inl ⟨hlive k id h1,hb⟩
  ·rw [hsub k id h1] at hb
   rw [h5] at hm
   refine .inr ⟨?_,hb⟩
   rw [h3]
   cases c with
   | nest _ _ _ _=>trivial
   | bld _ _ _=>trivial
   | var _=>exact hm.elim
   | arr _ _ _=>exact hm.elim
   | mp _ _=>exact hm.elim
 let xo:Nat→Prop:=fun b=>Own σ E X0 b∧∀ id∈ids,¬ OwnAt σ.blk E id b
 have hX1:∀ b,OwnB xo (preB bl) Ec b→Own σ E X0 b:=fun b hb=>by
  rcases hb with hb | ⟨i,hi⟩
  ·exact hb.1
  ·obtain ⟨k,id,rfl,h1,h2⟩:=hat i b hi
   exact .inr ⟨id,h2⟩
 have hownlt:∀ b,Own σ E X0 b→b<w.heap.size:=fun b hb=>by
  rcases hb with hb | ⟨i,hi⟩
  ·exact hs.xlt hb
  ·exact hs.olt hi
 -- the arguments
 obtain ⟨cv,e1,hcl,hcap⟩:=hfv hp
 obtain ⟨h1,h2⟩:=zg5 hs hx hq
 have hcvl:cv.toList.length=cs.length:=by simpa using hcl
 have hal:(args.toList.map a.eval).length=xs.length:=by rw [List.length_map];exact h1
 have hgo:(execOp a.eval o).run P w=(callFunc g (args.toList.map a.eval++cv.toList).toArray).run P w:=by
  rw [show (args.toList.map a.eval++cv.toList).toArray=(args.map a.eval++cv) from by rw [← List.toArray_appendList];simp]
  simp only [execOp,ho,Sem.run_bind,resolve,e1,Deferred.ofValue,Sem.run_pure,Result.andThen_ok,invoke]
  simp
 have hreps0:∀ (i:Nat) x,(xs++cs)[i]?=some x→∃ v,(args.toList.map a.eval++cv.toList)[i]?=some v∧RepV w w0.heap.size (Own σ E X0) E x v:=fun i x hx'=>by
  by_cases hi:i<xs.length
  ·rw [List.getElem?_append_left hi] at hx'
   obtain ⟨y,hy1,hy2,_⟩:=h2 i x hx'
   exact ⟨_,by rw [List.getElem?_append_left om];simp only [List.getElem?_map,hy1,Option.map_some],hy2⟩
  ·rw [List.getElem?_append_right om] at hx'
   have hlt:=(List.getElem?_eq_some_iff.1 hx').1
   have hv:cv[i - xs.length]?=some (cv[i - xs.length]' om):=Array.getElem?_eq_getElem om
   refine ⟨cv[i - xs.length]' om,?_,hcap _ x _ hx' hv⟩
   rw [List.getElem?_append_right om,hal,Array.getElem?_toList]
   exact hv
 have hreps:∀ (i:Nat) x,(dfrL (xs++cs))[i]?=some x→∃ v,(args.toList.map a.eval++cv.toList)[i]?=some v∧RepV w w0.heap.size (Own σ E X0) E x v:=fun i x hx'=>by
  rw [zdl] at hx'
  simp only [Option.map_eq_some_iff] at hx'
  obtain ⟨y,hy,rfl⟩:=hx'
  obtain ⟨v,h8,h9⟩:=hreps0 i y hy
  exact ⟨v,h8,h9.dfrX⟩
 have hmx:∀ lv∈dfrL (xs++cs),∀ id,Ment lv id→id∈ids:=fun lv hl id hm=>killL_mem.1 (zd1 hm (zdu hxm lv hl))
 have hcall:∀ C:Array Value→World→(Ending→World→Prop)→Prop,FnG C (renL (inM ids) (dfrL (xs++cs))) bl r rbl→C (args.toList.map a.eval++cv.toList).toArray w _:=fun C hF=>hF w0 w xo (args.toList.map a.eval++cv.toList) Ec hs.gh (by rw [List.length_append,zd4,zd6,List.length_append,hal,hcvl]) hs.below (fun b hb=>⟨hownlt b hb.1,fun i hi=>by
   obtain ⟨k,id,rfl,g1,g2⟩:=hat i b hi
   exact hb.2 id (List.mem_of_getElem? g1) g2⟩) (fun b hb=>by
   rcases hb.1 with hx | ⟨i,hi⟩
   ·exact hs.xge b hx
   ·exact hs.own_geA hi) (fun i lv v hlv hv=>by
   rw [zfk] at hlv
   simp only [Option.map_eq_some_iff] at hlv
   obtain ⟨x,hxi,rfl⟩:=hlv
   obtain ⟨y,hy1,hy2⟩:=hreps i x hxi
   rw [hy1] at hv
   cases hv
   have hxm':=hmx x (List.mem_of_getElem? hxi)
   refine ⟨hy2.renamed (Nat.le_refl _) hX1 fun id hid=>hin id (hxm' id hid),fun id hid=>?_⟩
   obtain ⟨k,rfl,hk⟩:=zhk _ _ _ hid
   exact (hpre2 k (hxm' k hk)).1) ⟨fun i c hc=>by
   obtain ⟨k,id,rfl,g1,g2,c0,g3,g4,g5⟩:=hpre i (by rw [hc];simp)
   rw [hc] at g5
   cases g5
   refine (hs.blks id c0 g3).renamed hX1 g2 (fun b=>by rw [hsub k id g1]) (fun wd cl sz n rows hcc=>by subst hcc;exact g4) fun cells lv id' hcc hl hm=>hin id' ?_
   subst hcc
   exact killL_mem.1 (zd1 hm (zdu g4 lv hl)),fun i j b hi hj=>by
   obtain ⟨k,id,rfl,g1,g2⟩:=hat i b hi
   obtain ⟨l,id',rfl,g1',g2'⟩:=hat j b hj
   have:=hs.injA id id' b g2 g2'
   subst this
   rw [zov hnd k l id g1 g1'],fun i cells lv id hi hl hm=>by
   obtain ⟨k,id0,rfl,g1,g2,c0,g3,g4,g5⟩:=hpre i (by rw [hi];simp)
   rw [hi] at g5
   cases c0 with
   | var cs =>
    simp only [renB,Option.some.injEq,BC.var.injEq] at g5
    subst g5
    obtain ⟨x,hx1,rfl⟩:=zrm hl
    obtain ⟨m,rfl,hm'⟩:=zhk _ _ _ hm
    exact (hpre2 m (killL_mem.1 (zd1 hm' (zdu g4 x hx1)))).1
   | arr=>simp [renB] at g5
   | mp=>simp [renB] at g5
   | bld=>simp [renB] at g5
   | nest=>simp [renB] at g5,fun i wd cl sz n rows hi=>by
   obtain ⟨m,id0,rfl,g1,g2,c0,g3,g4,g5⟩:=hpre i (by rw [hi];simp)
   rw [hi] at g5
   cases c0 with
   | nest wd' cl' sz' n' rows'=>simp only [renB,Option.some.injEq,BC.nest.injEq] at g5;rw [g5.2.1];exact g4
   | arr=>simp [renB] at g5
   | mp=>simp [renB] at g5
   | bld=>simp [renB] at g5
   | var=>simp [renB] at g5⟩
 intro K Q hk
 have fin : ∀ e w', (∃ v E', e = Ending.returned v ∧ Below w0.heap.size w0 w' ∧ w.heap.size ≤ w'.heap.size ∧
     (∀ b,b<w.heap.size→(∀ i,¬ OwnAt (preB bl) Ec i b)→w'.heap[b]?=w.heap[b]?) ∧
     (∀ i,900000≤i→look rbl i≠none→E' i=Ec i∧preB bl i≠none) ∧
     (∀ i b,OwnAt (look rbl) E' i b→w.heap.size≤b∨∃ j,OwnAt (preB bl) Ec j b) ∧
     (RepV w' w0.heap.size (OwnB xo (look rbl) E') E' r v∧∀ id,Ment r id→look rbl id≠none)∧BlksOk w' w0.heap.size xo E' (look rbl))→∃ v,e=Ending.returned v∧K (a.put o.dst v) w':=fun e w' hh=>by
  obtain ⟨v,E',rfl,p1,p2,p3,p4,p5,⟨p6,p7⟩,p8⟩:=hh
  refine ⟨v,rfl,?_⟩
  -- what is set
  let U:Nat→Option (BC×EI):=look (rbl.map fun x=>(outM ids d x.1,(renB (outM ids d) x.2,E' x.1)))
  have hUub : (fun j => (U j).map (·.1)) = look (rbl.map fun x => (outM ids d x.1, renB (outM ids d) x.2)) := by
   funext j
   exact zmp (outM ids d) (fun x => (renB (outM ids d) x.2, E' x.1)) (·.1) rbl j
  have hUs:∀ j y,U j=some y→∃ i c,outM ids d i=j∧look rbl i=some c∧y=(renB (outM ids d) c,E' i):=fun j y hy=>zj9 (outM ids d) (fun x=>(renB (outM ids d) x.2,E' x.1)) hy
  have hUn:∀ i,look rbl i≠none→U (outM ids d i)≠none:=fun i hi=>zp7 (outM ids d) (fun x=>(renB (outM ids d) x.2,E' x.1)) hi
  have hnw:∀ i,i<900000→look rbl i≠none→σ.used (resId d i)=false:=fun i hi hl=>by
   obtain ⟨c,hc⟩:=Option.ne_none_iff_exists'.1 hl
   refine hnew _ ?_
   simp only [newM,List.mem_map,List.mem_filter]
   exact ⟨(i,c),⟨zdf hc,Nat.ble_eq_true_of_le hi⟩,rfl⟩
  have hout:∀ i,look rbl i≠none→(i<900000∧outM ids d i=resId d i∧σ.used (resId d i)=false)∨∃ k id,i=900000+k∧ids[k]?=some id∧outM ids d i=id∧E' i=E id:=fun i hi=>by
   rcases Nat.lt_or_ge i 900000 with h | h
   ·left
    refine ⟨h,?_,hnw i h hi⟩
    unfold outM
    rw [show Nat.ble 900000 i=false from by cases hb:Nat.ble 900000 i with | false=>rfl | true=>have:=Nat.le_of_ble_eq_true hb;omega]
    rfl
   ·right
    obtain ⟨q1,q2⟩:=p4 i h hi
    obtain ⟨k,id,rfl,g1,g2,_⟩:=hpre i q2
    refine ⟨k,id,rfl,g1,?_,by rw [q1,g2]⟩
    unfold outM
    rw [Nat.ble_eq_true_of_le h]
    simp only [cond_true,show 900000+k - 900000=k by omega,List.getD_eq_getElem?_getD,g1,Option.getD_some]
  have hinj:∀ i j,look rbl i≠none→look rbl j≠none→outM ids d i=outM ids d j→i=j:=fun i j hi hj he=>by
   rcases hout i hi with ⟨h1,h2,h3⟩ | ⟨k,id,rfl,h1,h2,_⟩<;>rcases hout j hj with ⟨g1,g2,g3⟩ | ⟨l,id',rfl,g1,g2,_⟩
   ·rw [h2,g2] at he;unfold resId at he;omega
   ·rw [h2,g2] at he
    rw [he,hs.live id' (hlive l id' g1)] at h3;cases h3
   ·rw [h2,g2] at he
    rw [← he,hs.live id (hlive k id h1)] at g3;cases g3
   ·rw [h2,g2] at he
    subst he
    rw [zov hnd k l id h1 g1]
  let S:Nat→Nat→Prop:=fun j b=>∃ i,look rbl i≠none∧outM ids d i=j∧E'.s i b
  have hSi:∀ i,look rbl i≠none→∀ b,S (outM ids d i) b↔E'.s i b:=fun i hi b=>⟨fun ⟨i',h1,h2,h3⟩=>by rw [hinj i' i h1 hi h2] at h3;exact h3,fun h=>⟨i,hi,rfl,h⟩⟩
  have hmr:∀ c,Mul (some (renB (outM ids d) c))→Mul (some c):=fun c hc=>by
   cases c with
   | nest _ _ _ _=>trivial
   | bld _ _ _=>trivial
   | var _=>exact hc.elim
   | arr _ _ _=>exact hc.elim
   | mp _ _=>exact hc.elim
  have hUE:∀ i,look rbl i≠none→(E.setFS U S) (outM ids d i)=E' i:=fun i hi=>by
   obtain ⟨y,hy⟩:=Option.ne_none_iff_exists'.1 (hUn i hi)
   obtain ⟨i',c,h1,h2,rfl⟩:=hUs _ y hy
   have:=hinj i' i (by rw [h2];simp) hi h1
   subst this
   simp only [Env.setFS,hy]
  have hUS:∀ i,look rbl i≠none→∀ b,(E.setFS U S).s (outM ids d i) b↔E'.s i b:=fun i hi b=>by
   obtain ⟨y,hy⟩:=Option.ne_none_iff_exists'.1 (hUn i hi)
   simp only [Env.setFS,hy]
   exact hSi i hi b
  -- a block of a name that is set
  have hatU:∀ j y b,U j=some y→(y.2.b=some b∨(Mul (some y.1)∧S j b))→∃ i,outM ids d i=j∧OwnAt (look rbl) E' i b:=fun j y b hU hb=>by
   obtain ⟨i,c,rfl,h2,rfl⟩:=hUs j y hU
   refine ⟨i,rfl,?_⟩
   rcases hb with hb | ⟨hm,hb⟩
   ·exact .inl ⟨by rw [h2];simp,hb⟩
   ·exact .inr ⟨by rw [h2];exact hmr c hm,(hSi i (by rw [h2];simp) b).1 hb⟩
  have hX2:∀ b,Own (σ.setF (killL ids) U) (E.setFS U S) X0 b→OwnB xo (look rbl) E' b:=fun b hb=>by
   rcases hb with hb | ⟨j,hj⟩
   ·exact .inl ⟨.inl hb,fun id hid=>hs.xneA hb⟩
   ·cases hU:U j with
    | some y =>
     have hbk:(σ.setF (killL ids) U).blk j=some y.1:=by simp [FS.setF,hU]
     obtain ⟨i, _, hi⟩ := hatU j y b hU (by
       rcases hj with ⟨_,hj⟩ | ⟨hm,hj⟩
       · simp only [Env.setFS,hU] at hj;exact .inl hj
       · simp only [Env.setFS,hU] at hj;rw [hbk] at hm;exact .inr ⟨hm,hj⟩)
     exact .inr ⟨i,hi⟩
    | none =>
     have hbk:(σ.setF (killL ids) U).blk j=if killL ids j=true then none else σ.blk j:=by simp [FS.setF,hU]
     cases hkl:killL ids j with
     | true=>rw [hkl] at hbk;exact absurd hbk hj.ne
     | false =>
      rw [hkl] at hbk
      have hj':OwnAt σ.blk E j b:=by
       rcases hj with ⟨h5,hj⟩ | ⟨hm,hj⟩
       ·simp only [Env.setFS,hU] at hj;rw [hbk] at h5;exact .inl ⟨h5,hj⟩
       ·simp only [Env.setFS,hU] at hj;rw [hbk] at hm;exact .inr ⟨hm,hj⟩
      refine .inl ⟨.inr ⟨j,hj'⟩,fun id hid hidb=>?_⟩
      have:=hs.injA j id b hj' hidb
      subst this
      rw [killL_mem.2 hid] at hkl;cases hkl
  have hS:Sat N w0 X0 (σ.setF (killL ids) U) (E.setFS U S) a w':=by
   refine hs.setFS (killL ids) U S (fun i y hy=>?_) p2 (fun b hb hno=>p3 b hb fun i hi=>?_) (fun i y b hy hyb=>?_) (fun i j y z b hy hz hyb hzb=>?_) p1 (fun i cells ei lv id hU hl hm=>?_) (fun i wd cl sz n rows ei k id hU hk hid=>?_) fun i y hy=>?_
   ·obtain ⟨i0,c,rfl,h2,rfl⟩:=hUs i y hy
    rcases hout i0 (by rw [h2];simp) with ⟨g1,g2,g3⟩ | ⟨k,id,rfl,g1,g2,g3⟩
    ·rw [g2];exact .inl g3
    ·right;rw [g2];exact ⟨g3,hlive k id g1⟩
   ·obtain ⟨k,id,rfl,g1,g2⟩:=hat i b hi
    exact hno id (.inr (killL_mem.2 (List.mem_of_getElem? g1))) g2
   ·obtain ⟨i0,_,hi0⟩:=hatU i y b hy hyb
    rcases p5 i0 b hi0 with h3 | ⟨j,hj⟩
    ·exact .inl h3
    ·obtain ⟨k,id,rfl,g1,g2⟩:=hat j b hj
     exact .inr ⟨id,.inr (killL_mem.2 (List.mem_of_getElem? g1)),g2⟩
   ·obtain ⟨i0,rfl,hi0⟩:=hatU i y b hy hyb
    obtain ⟨j0,rfl,hj0⟩:=hatU j z b hz hzb
    rw [p8.inj i0 j0 b hi0 hj0]
   ·obtain ⟨i0,c,rfl,h2,he⟩:=hUs i _ hU
    cases c with
    | var cs =>
     simp only [renB,Prod.mk.injEq,BC.var.injEq] at he
     obtain ⟨rfl,rfl⟩:=he
     obtain ⟨x,hx1,rfl⟩:=zrm hl
     obtain ⟨m,rfl,hm'⟩:=zhk _ _ _ hm
     exact .inl (hUn m (p8.ment i0 cs x m h2 hx1 hm'))
    | arr=>simp [renB] at he
    | mp=>simp [renB] at he
    | bld=>simp [renB] at he
    | nest=>simp [renB] at he
   ·obtain ⟨i0,c,rfl,h2,he⟩:=hUs i _ hU
    cases c with
    | nest wd' cl' sz' n' rows' =>
     simp only [renB,Prod.mk.injEq,BC.nest.injEq] at he
     obtain ⟨⟨rfl,rfl,rfl,rfl,rfl⟩,rfl⟩:=he
     obtain ⟨ek9,hs9,_⟩:=p8.ok i0 _ h2
     exact absurd hid (hs9.cl (p8.out i0 _ _ _ _ _ h2) k id hk)
    | arr=>simp [renB] at he
    | mp=>simp [renB] at he
    | bld=>simp [renB] at he
    | var=>simp [renB] at he
   ·obtain ⟨i0,c,rfl,h2,rfl⟩:=hUs i y hy
    refine (p8.ok i0 c h2).renamed hX2 (hUE i0 (by rw [h2];simp)) (hUS i0 (by rw [h2];simp)) (fun wd cl sz n rows hcc=>?_) fun cells lv id hcc hl hm=>?_
    ·subst hcc
     exact p8.out i0 _ _ _ _ _ h2
    ·subst hcc
     exact hUE id (p8.ment i0 cells lv id h2 hl hm)
  have hput:∀ u,(dst=false→u=undef)→K (a.put o.dst u) w'→True:=fun _ _ _=>trivial
  have hSu:σ.upd (killL ids) (look (rbl.map fun x=>(outM ids d x.1,renB (outM ids d) x.2)))=σ.setF (killL ids) U:=by rw [FS.setF_eq,hUub]
  cases dst with
  | true =>
   refine hk v w' (E.setFS U S) (by rw [hSu];exact hS) (fun h=>by cases h) fun lv hlv=>?_
   cases hlv
   rw [hSu]
   refine ⟨p6.renamed (Nat.le_refl _) hX2 fun id hid=>hUE id (p7 id hid),fun id hid=>?_⟩
   obtain ⟨m,rfl,hm'⟩:=zhk _ _ _ hid
   obtain ⟨y,hy⟩:=Option.ne_none_iff_exists'.1 (hUn m (p7 m hm'))
   simp [FS.setF,hy]
  | false =>
   have hd:=hdst rfl
   have:=hk undef w' (E.setFS U S) (by rw [hSu];exact hS) (fun _=>rfl) fun lv hlv=>by cases hlv
   rw [hd] at this ⊢
   exact this
 cases hb:fn.body.isSome with
 | true =>
  rw [hb] at hF
  have hbn:fn.body.isNone=false:=by cases h:fn.body<;>simp_all
  have hrun:(execOp a.eval o).run P w=.ok (.enter g (args.toList.map a.eval++cv.toList).toArray) w:=by
   rw [hgo]
   simp only [callFunc,Sem.run_bind,run_program,hfn,Result.andThen_ok,hname,Bool.false_eq_true,if_false,hbn,Sem.run_pure]
  unfold Oper.wp
  rw [hrun]
  show Calls P g _ w _
  exact (hcall _ hF).mono fun e w' hh=>by
   obtain ⟨v,rfl,hk'⟩:=fin e w' hh
   exact hk'
 | false =>
  rw [hb] at hF
  obtain ⟨v,w',hr,hh⟩:=hcall _ hF
  obtain ⟨v',e,hk'⟩:=fin _ w' hh
  cases e
  exact zd3 (hgo.trans hr) hk'

theorem zbw {c:Bool} {α:Type} {x y:α} (h:(bif c then some x else none)=some y):c=true∧x=y:=by
 cases c with
 | true=>exact ⟨rfl,by simpa using h⟩
 | false=>cases h

theorem zq7 (w : World) (f : Value → ByteArray → Sem (ForInStep ByteArray)) (hf : ∀ n s, f (.int .u8 n) s = pure (ForInStep.yield (s.push (UInt8.ofNat n.toNat)))) : ∀ (cs : List Value) (l : List Int) (s : ByteArray), cs.length = l.length → (∀ (k : Nat) v, cs[k]? = some v → v = .int .u8 (l.getD k default)) →
    (forIn cs s f).run P w=.ok ⟨(s.data.toList++l.map byteOf).toArray⟩ w
 | [],[],s,_,_=>by simp
 | c :: cs,n :: l,s,hl,hh=>by
  have e:=hh 0 c rfl
  subst e
  simp only [List.forIn_cons,List.getD_cons_zero,hf,Sem.run_bind,Sem.run_pure,Result.andThen_ok]
  have:=zq7 w f hf cs l (s.push (UInt8.ofNat n.toNat)) za4 fun k v hv=>by simpa using hh (k+1) v (by simpa using hv)
  refine Eq.trans this ?_
  simp [byteOf]

theorem zzs (hs : Sat N w0 X0 σ E a w) {o : Oper} {S T : TypeId} {x : Operand} (ho : o.op = .convert S T x) {e : Nat} (hS : P.underlying S = some (.slice e)) (hT : P.underlying T = some .string) (hu : P.underlying e = some (.int .u8)) {v : LV} {n : Nat} {row : Nat → List LV} {is : List Nat}
    (hx:RepV w w0.heap.size (Own σ E X0) E v (a.eval x)) (hv:arrOf σ.blk v=some (1,n,row,is)) {l:List Int} (hn:n=l.length) (hr:∀ k,k<n→row k=[.int .u8 (l.getD k default)]) (nw:List Nat) (p:List Prop) :
    MOk P N w0 X0 σ a w o ⟨some (.str (l.map byteOf)),noK,fun _=>none,nw,p⟩:=by
 intro K Q hk
 obtain ⟨A,cap,hval,hcells⟩:=zkh hs hv hx
 have hup:σ.upd noK (fun _=>none)=σ:=by cases σ;simp [FS.upd,noK]
 have hrun:(execOp a.eval o).run P w=.ok (.value (.string ⟨(l.map byteOf).toArray⟩)) w:=by
  simp only [execOp,ho,Sem.run_bind,Go.convert,run_underlying hS,run_underlying hT,Result.andThen_ok,hval,hu,run_underlying hu,Conv.bytesToString]
  cases A with
  | none =>
   have h0:n=0:=by
    rcases Nat.eq_zero_or_pos n with h | h
    ·exact h
    ·obtain ⟨_,_,h1,_⟩:=hcells h;cases h1
   have:l=[]:=List.eq_nil_of_length_eq_zero om
   subst this
   rfl
  | some ad =>
   have hc:∀ j,j<n→w.cell? (ad.add j)=some (.int .u8 (l.getD j default)):=fun j hj=>by
    obtain ⟨ad',cv,h1,h2,h3,h4,_⟩:=hcells om
    cases h1
    have h5:=h2 j 0 hj om
    rw [Nat.mul_one,Nat.add_zero] at h5
    have h6:=h4 j 0 (.int .u8 (l.getD j default)) hj (by rw [hr j hj];rfl)
    rw [h5,(RepV.c (E:=E) _ _ h6).int_inv]
   simp only [Sem.run_bind,run_loadCells w ad n (fun j=>.int .u8 (l.getD j default)) hc,Result.andThen_ok]
   rw [← Array.forIn_toList]
   rw [zq7 (P:=P) w _ (fun n s=>rfl) ((List.range n).map fun j=>Value.int .u8 (l.getD j default)) l ByteArray.empty (by simp [hn]) (fun k v hv=>by
    simp only [List.getElem?_map,Option.map_eq_some_iff] at hv
    obtain ⟨j,hj,rfl⟩:=hv
    rw [List.getElem?_range (by simpa using (List.getElem?_eq_some_iff.1 hj).1)] at hj
    cases hj;rfl)]
   simp
 refine zd3 hrun (hk _ w E (by rw [hup];exact hs) (fun h=>by cases h) fun lv hlv=>?_)
 cases hlv
 rw [hup]
 exact ⟨.c _ _ (.str _),fun id hm=>by cases hm⟩

set_option maxHeartbeats 1000000 in
theorem zqr (hs:Sat N w0 X0 σ E a w) {o:Oper} {h:Hint} {D:MD} (hm:mop0 P o σ.slot σ.blk h=some D) (ha:All D.vcs) (hnew:∀ i∈D.new,σ.used i=false):MOk P N w0 X0 σ a w o D:=by
 unfold mop0 at hm
 split at hm
 ·rename_i T x d ho hd
  split at hm
  ·rename_i v p hv
   simp only [Option.map_eq_some_iff] at hm
   obtain ⟨cs,hcs,rfl⟩:=hm
   obtain ⟨g1,g2⟩:=zbk hs hv ha
   obtain ⟨c1,c2,_,c4⟩:=zjj hcs g1
   refine zqo hs (T:=T) (vs:=(a.eval x).cells) ?_ (hnew d zas) c1 c2 (fun y hy id hmm=>g2 id (c4 y hy id hmm)) _ _
   simp only [execOp,ho,Sem.run_bind,Instr.box,newVar,newRow,run_newObj,Result.andThen_ok,Sem.run_pure]
   rfl
  ·cases hm
 ·rename_i T d ho hd
  split at hm
  ·rename_i row'
   split at hm
   ·rename_i n e cs hu hcs
    split at hm
    ·rename_i sz hz
     obtain ⟨hc,rfl⟩:=zbw hm
     simp only [Bool.and_eq_true] at hc
     have e1:=Nat.eq_of_beq_eq_true hc.1.1
     have e2:=Nat.le_of_ble_eq_true hc.1.2
     have e3:=Nat.le_of_ble_eq_true hc.2
     have hrow:=All.getRange ha
     obtain ⟨i,z,g1,g2,g3,g4⟩:=zew hcs
     have hone:=znu hcs
     refine zuv hs (T:=T) (vs:=z.cells) (cap:=n) (ks:=[]) ?_ (hnew d zas) e2 (Nat.le_refl _) (by unfold maxLen;omega) om (fun k hk=>?_) (fun k hk=>?_) (fun k hk=>by cases hk) (fun X' hX hkX k hk j lv v hj hv=>?_) _ _
     ·simp only [execOp,ho,Sem.run_bind,Instr.alloc,zeroValue,typeInfo,run_program,Result.andThen_ok,g1,g2,Sem.run_pure,newVar,newRow,run_newObj]
      rfl
     ·rw [hrow k hk]
      have:k * sz+sz≤n * sz:=by rw [← Nat.succ_mul];exact Nat.mul_le_mul_right sz hk
      simp;omega
     ·rw [hrow k hk]
      intro lv hlv
      exact hone lv (List.mem_of_mem_drop (List.mem_of_mem_take hlv))
     ·rw [hrow k hk,List.getElem?_take] at hj
      split at hj
      ·rw [List.getElem?_drop] at hj
       exact g4 _ lv v hj hv
      ·cases hj
    ·cases hm
   ·cases hm
  simp only [Option.map_eq_some_iff] at hm
  obtain ⟨cs,hcs,rfl⟩:=hm
  obtain ⟨i,z,g1,g2,g3,g4⟩:=zew hcs
  refine zqo hs (T:=T) (vs:=z.cells) ?_ (hnew d zas) g3 (fun j x u hx hu=>.c _ _ (g4 j x u hx hu)) (fun y hy id hmm=>?_) _ _
  ·simp only [execOp,ho,Sem.run_bind,Instr.alloc,zeroValue,typeInfo,run_program,Result.andThen_ok,g1,g2,Sem.run_pure,newVar,newRow,run_newObj]
   rfl
  ·obtain ⟨j,hj,e⟩:=List.getElem_of_mem hy
   have hju:z.cells[j]?=some (z.cells[j]' om):=Array.getElem?_eq_getElem om
   exact absurd hmm ((g4 (w:=w) (B:=0) (X:=fun _=>False) j y _ zav hju).noMent id)
 ·rename_i T x y ho hd
  split at hm
  ·rename_i id off p v q n hx hy hz
   split at hm
   ·rename_i cs vs hb hv
    obtain ⟨hc,rfl⟩:=zbw hm
    simp only [Bool.and_eq_true] at hc
    obtain ⟨ha1,ha2⟩:=All.append.1 ha
    obtain ⟨g1,g2⟩:=zbk hs hx ha1
    obtain ⟨k1,k2⟩:=zbk hs hy ha2
    exact zrv hs ho hd g1 k1 k2 hz hb hv (Nat.eq_of_beq_eq_true hc.1) (Nat.le_of_ble_eq_true hc.2) _
   ·cases hm
  ·rename_i id sz i off p v q n hx hy hz
   split at hm
   ·rename_i sz' m row vs row' hb hv
    split at hm
    ·rename_i xs ks hf
     obtain ⟨hc,rfl⟩:=zbw hm
     simp only [Bool.and_eq_true,Bool.not_eq_true'] at hc
     obtain ⟨⟨⟨e1,e2⟩,e3⟩,e4⟩:=hc
     have e1:=Nat.eq_of_beq_eq_true e1
     subst e1
     obtain ⟨hab,hrow,_⟩:=All.append.1 ha
     obtain ⟨ha1,ha2⟩:=All.append.1 hab
     exact zs9 hs ho (zbk hs hx ha1).1 (zbk hs hy ha2).1 hz hb hv hf (Nat.eq_of_beq_eq_true e2) (Nat.le_of_ble_eq_true e3) e4 hrow _
    ·cases hm
   ·cases hm
  ·cases hm
 ·rename_i T l c d ho hd
  split at hm
  ·rename_i e kl n p kc m q hu hl hc
   split at hm
   ·rename_i z i hz hi
    obtain ⟨hzz,rfl⟩:=zbw hm
    obtain ⟨hab,hv,_⟩:=All.append.1 ha
    obtain ⟨ha1,ha2⟩:=All.append.1 hab
    exact z19 hs ho hu (zbk hs hl ha1).1 (zbk hs hc ha2).1 hz hi (Nat.eq_of_beq_eq_true hzz) hv.1 hv.2.1 hv.2.2.1 hv.2.2.2 (hnew d zas) _ _
   ·cases hm
  ·cases hm
 ·rename_i T len parts d ho hd
  split at hm
  ·rename_i e vs p hu hev
   split at hm
   ·rename_i z n xs ks hz hsz hf
    split at hm
    ·rename_i flat hfl
     cases hc:(Nat.beq z.length n&&Nat.ble (len * n) 16777216&&Nat.ble 1 n) with
     | false=>rw [hc] at hm;cases hm
     | true =>
      rw [hc] at hm
      simp only [cond_true] at hm
      simp only [Bool.and_eq_true] at hc
      obtain ⟨⟨e1,e2⟩,e3⟩:=hc
      have e1:=Nat.eq_of_beq_eq_true e1
      have e2:=Nat.le_of_ble_eq_true e2
      have e3:=Nat.le_of_ble_eq_true e3
      split at hm
      ·rename_i row'
       cases hm
       obtain ⟨ha1,ha2⟩:=All.append.1 ha
       exact zjr hs ho hu hev ha1 hz hsz hf hfl e1 e2 e3 (hnew d zas) (All.getRange ha2) _ _
      ·obtain ⟨hl1,rfl⟩:=zbw hm
       have hl1:=Nat.le_of_ble_eq_true hl1
       refine zjr hs ho hu hev ha hz hsz hf hfl e1 e2 e3 (hnew d zas) (fun k hk=>?_) _ _
       have hk0:k=0:=by omega
       subst hk0
       have hlen:len=1:=by omega
       subst hlen
       have hfll:flat.length=n:=by
        have:∀ {pl:List (Nat×List LV)} {cs out:List LV} {place:Nat→Option (Nat×Nat)},fillL place cs pl=some out→out.length=cs.length:=by
         intro pl
         induction pl with
         | nil=>intro cs out place h;cases h;rfl
         | cons x pl ih =>
          intro cs out place h
          obtain ⟨j,v⟩:=x
          unfold fillL at h
          split at h
          ·rename_i off sz _
           cases hcc:(Nat.beq v.length sz&&Nat.ble (off+sz) cs.length) with
           | false=>rw [hcc] at h;cases h
           | true =>
            rw [hcc] at h
            simp only [cond_true] at h
            simp only [Bool.and_eq_true] at hcc
            have h1:=Nat.eq_of_beq_eq_true hcc.1
            have h2:=Nat.le_of_ble_eq_true hcc.2
            rw [ih h,ze5 _ _ _ om]
          ·cases h
        rw [this hfl,zdt];omega
       simp [List.take_of_length_le (show flat.length≤n by omega)]
    ·cases hm
   ·cases hm
  ·cases hm
 ·rename_i args tys d ho hd
  split at hm
  ·rename_i x y T T' row' hargs htys
   split at hm
   ·rename_i e x' p y' q hu hx hy
    split at hm
    ·rename_i i sz m row2 is hi hya
     split at hm
     ·obtain ⟨hc,rfl⟩:=zbw hm
      simp only [Bool.and_eq_true] at hc
      obtain ⟨⟨⟨⟨e0,e1⟩,e2⟩,e3⟩,e4⟩:=hc
      have e1:=Nat.eq_of_beq_eq_true e1
      subst e1
      obtain ⟨hab,hrow,hbd,_⟩:=All.append.1 ha
      obtain ⟨ha1,ha2⟩:=All.append.1 hab
      exact zjs hs (zbk hs hx ha1).1.nilS_inv (fun v w' hr => zpj ho hargs htys hr) hu hi (zvq e0) (Nat.eq_of_beq_eq_true e2) (Nat.le_of_ble_eq_true e3) (Nat.le_of_ble_eq_true e4) hya
        (zbk hs hy ha2).1 hrow hbd (hnew d zas) _ _
     ·rename_i id
      split at hm
      ·rename_i sz' n row1 hb
       obtain ⟨hc,rfl⟩:=zbw hm
       simp only [Bool.and_eq_true] at hc
       obtain ⟨⟨⟨⟨⟨e0,e1⟩,e2⟩,e5⟩,e3⟩,e4⟩:=hc
       have e1:=Nat.eq_of_beq_eq_true e1
       subst e1
       have e5:=Nat.eq_of_beq_eq_true e5
       subst e5
       obtain ⟨hab,hrow,hbd,_⟩:=All.append.1 ha
       obtain ⟨ha1,ha2⟩:=All.append.1 hab
       exact zp6 hs (fun v w' hr => zpj ho hargs htys hr) (zbk hs hx ha1).1 hb hu hi (zvq e0) (Nat.eq_of_beq_eq_true e2) (Nat.le_of_ble_eq_true e3) (Nat.le_of_ble_eq_true e4) hya
         (zbk hs hy ha2).1 hrow hbd (hnew d zas) _ _
      ·cases hm
     ·cases hm
    ·cases hm
   ·cases hm
  ·cases hm
 ·rename_i f args tys d ho hd
  split at hm
  ·rename_i g p xs q r arrs hf hx
   split at hm
   ·rename_i ys fn hc hfn
    obtain ⟨hb,rfl⟩:=zbw hm
    simp only [Bool.and_eq_true,Bool.not_eq_true'] at hb
    obtain ⟨hab,hF,_⟩:=All.append.1 ha
    obtain ⟨ha1,ha2⟩:=All.append.1 hab
    refine z2a hs ho hf ha1 hx ha2 hc hfn hb.1 hb.2 hF (fun j hj=>?_) _ _
    obtain ⟨c,hcj⟩:=Option.ne_none_iff_exists'.1 hj
    obtain ⟨k,rfl,hk⟩:=zks hcj
    have hkl:=(List.getElem?_eq_some_iff.1 hk).1
    exact hnew _ (List.mem_map.2 ⟨k,List.mem_range.2 hkl,rfl⟩)
   ·cases hm
  ·rename_i g p xs q d' ids rbl r hf hx
   exact zk2 hs ho (fun hp=>⟨#[],(zbk hs hf hp).1.fn_inv,rfl,fun i lv u h=>by simp at h⟩) ⟨q,hx,rfl⟩ hm ha hnew fun h=>by cases h
  ·rename_i g cs p xs q d' ids rbl r hf hx
   exact zk2 hs ho (fun hp=>by obtain ⟨vs,e1,e2,e3⟩:=(zbk hs hf hp).1.clo_inv;exact ⟨vs,e1,e2,e3⟩) ⟨q,hx,rfl⟩ hm ha hnew fun h=>by cases h
  ·rename_i g cs p xs q r arrs hf hx
   split at hm
   ·rename_i ys fn hc hfn
    obtain ⟨hb,rfl⟩:=zbw hm
    simp only [Bool.and_eq_true,Bool.not_eq_true'] at hb
    obtain ⟨hab,hF,_⟩:=All.append.1 ha
    obtain ⟨ha1,ha2⟩:=All.append.1 hab
    refine zzr hs ho hf ha1 hx ha2 hc hfn hb.1 hb.2 hF (fun j hj=>?_) _ _
    obtain ⟨c,hcj⟩:=Option.ne_none_iff_exists'.1 hj
    obtain ⟨k,rfl,hk⟩:=zks hcj
    have hkl:=(List.getElem?_eq_some_iff.1 hk).1
    exact hnew _ (List.mem_map.2 ⟨k,List.mem_range.2 hkl,rfl⟩)
   ·cases hm
  ·cases hm
 ·rename_i f args tys ho hd
  split at hm
  ·rename_i g p xs q d' ids rbl r hf hx
   exact zk2 hs ho (fun hp=>⟨#[],(zbk hs hf hp).1.fn_inv,rfl,fun i lv u h=>by simp at h⟩) ⟨q,hx,rfl⟩ hm ha hnew fun _=>hd
  ·rename_i g cs p xs q d' ids rbl r hf hx
   exact zk2 hs ho (fun hp=>by obtain ⟨vs,e1,e2,e3⟩:=(zbk hs hf hp).1.clo_inv;exact ⟨vs,e1,e2,e3⟩) ⟨q,hx,rfl⟩ hm ha hnew fun _=>hd
  ·cases hm
 ·rename_i S T x d ho hd
  split at hm
  ·rename_i e v p l hS hT hx
   split at hm
   ·rename_i sz n row is hu hv
    obtain ⟨hc,rfl⟩:=zbw hm
    have e1:=Nat.eq_of_beq_eq_true hc
    subst e1
    obtain ⟨ha1,ha2,_⟩:=All.append.1 ha
    exact zzs hs ho hS hT hu (zbk hs hx ha1).1 hv ha2.1 ha2.2 _ _
   ·cases hm
  ·cases hm
 ·rename_i T d ho hd
  split at hm
  ·rename_i K V hu
   obtain ⟨hc,rfl⟩:=zbw hm
   exact zxw hs ho hu (hnew d zas) _ _ _
  ·cases hm
 ·rename_i T x i y ho hd
  split at hm
  ·rename_i K V id p kv q v r hu hx hi hy
   split at hm
   ·rename_i kd m hb
    split at hm
    ·rename_i k hk
     split at hm
     ·rename_i m' hm'
      obtain ⟨hc,rfl⟩:=zbw hm
      obtain ⟨hab,ha3⟩:=All.append.1 ha
      obtain ⟨ha1,ha2⟩:=All.append.1 hab
      exact zqq hs (.inl ho) hd hu (zbk hs hx ha1).1 hb (zbk hs hi ha2).1 hk (zbk hs hy ha3).1 hc hm' _ _
     ·cases hm
    ·cases hm
   ·cases hm
  ·cases hm
 ·rename_i T x i y ho hd
  split at hm
  ·rename_i K V id p kv q v r hu hx hi hy
   split at hm
   ·rename_i kd m hb
    split at hm
    ·rename_i k hk
     split at hm
     ·rename_i m' hm'
      obtain ⟨hc,rfl⟩:=zbw hm
      obtain ⟨hab,ha3⟩:=All.append.1 ha
      obtain ⟨ha1,ha2⟩:=All.append.1 hab
      exact zqq hs (.inr ho) hd hu (zbk hs hx ha1).1 hb (zbk hs hi ha2).1 hk (zbk hs hy ha3).1 hc hm' _ _
     ·cases hm
    ·cases hm
   ·cases hm
  ·cases hm
 ·rename_i T x lo hi d ho hd
  split at hm
  ·rename_i e id p hu hx
   split at hm
   ·rename_i sz n row l q s hb h1 hz
    split at hm
    ·rename_i h' r h2
     obtain ⟨hc,rfl⟩:=zbw hm
     have:=Nat.eq_of_beq_eq_true hc
     subst this
     obtain ⟨habc,hv,_⟩:=All.append.1 ha
     obtain ⟨hab,ha3⟩:=All.append.1 habc
     obtain ⟨ha1,ha2⟩:=All.append.1 hab
     exact zrw hs ho hu (zbk hs hx ha1).1 hb hz h1 h2 ha2 ha3 hv.1 hv.2.1 hv.2.2 (hnew d zas) _ _
    ·cases hm
   ·cases hm
  ·cases hm
 ·cases hm

theorem zku : ∀ {fs : List Field} {pl : List (Nat × Nat)}, znh P fs = some pl → fs.mapM (fun f => (P.info? f.type).map fun i => (f.offset, i.size)) = some pl
  | [],pl,h=>by cases h;rfl
  | f :: r,pl,h=>by
    simp only [znh] at h
    split at h
    · rename_i n l h1 h2
      cases h
      simp only [szOf,Option.map_eq_some_iff] at h1
      obtain ⟨i,hi,rfl⟩:=h1
      simp [List.mapM_cons,hi,zku h2]
    · cases h

theorem zsp (hs : Sat N w0 X0 σ E a w) {o : Oper} {T : Nat} {parts : Array (Nat × Operand)} (ho : o.op = .build T parts) {z : List LV} (hz : zeroL P T = some z) {vs : List (Nat × List LV)} {p : List Prop} (hev : zem σ.slot parts.toList = some (vs, p)) (ha : All p)
    {place:Nat→Option (Nat×Nat)} {out:List LV} (hf:fillL place z vs=some out)
    (hrun:∀ i zv ov,P.info? T=some i→i.zero=some zv→Instr.fill place zv.cells (parts.map fun (i,x)=>(i,a.eval x)).toList=some ov→(Instr.build T (parts.map fun (i,x)=>(i,a.eval x))).run P w=.ok (.agg ov) w):VOk P w0 X0 σ E a w o (.agg out):=by
 obtain ⟨i,zv,g1,g2,g3,g4⟩:=zew hz
 obtain ⟨q1,q2⟩:=zhp hs hev ha
 obtain ⟨ov, k1, k2, k3, k4⟩ := zpi (RepV w w0.heap.size (Own σ E X0) E) vs (parts.map fun (i, x) => (i, a.eval x)).toList z zv.cells out hf g3 (fun j x u hx hu => .c _ _ (g4 j x u hx hu)) (by simpa using q1)
   (fun j x y hx hy=>by
     simp only [Array.toList_map,List.getElem?_map,Option.map_eq_some_iff] at hy
     obtain ⟨y0,hy0,rfl⟩:=hy
     obtain ⟨r1,r2,r3,_⟩:=q2 j x y0 hx hy0
     exact ⟨r1,r2,r3⟩)
 refine ⟨.agg ov,?_,.agg out ov k2 k4,fun id hm=>?_⟩
 ·simp only [execOp,ho,Sem.run_bind,hrun i zv ov g1 g2 k1,Result.andThen_ok,Sem.run_pure]
 ·cases hm with
  | agg _ x _ hx hm' =>
   have key:∀ {pl:List (Nat×List LV)} {cs out:List LV},fillL place cs pl=some out→∀ x∈out,x∈cs∨∃ q∈pl,x∈q.2:=by
    intro pl
    induction pl with
    | nil=>intro cs out h x hx;cases h;exact .inl hx
    | cons y pl ih =>
     intro cs out h x hx
     obtain ⟨j,v⟩:=y
     unfold fillL at h
     split at h
     ·rename_i off sz _
      cases hcc:(Nat.beq v.length sz&&Nat.ble (off+sz) cs.length) with
      | false=>rw [hcc] at h;cases h
      | true =>
       rw [hcc] at h
       simp only [cond_true] at h
       rcases ih h x hx with h1 | ⟨q,hq,h1⟩
       ·unfold zen at h1
        rcases List.mem_append.1 h1 with h1 | h1
        ·exact .inl (List.mem_of_mem_take h1)
        ·rcases List.mem_append.1 h1 with h1 | h1
         ·exact .inr ⟨(j,v),List.mem_cons_self ..,h1⟩
         ·exact .inl (List.mem_of_mem_drop h1)
       ·exact .inr ⟨q,List.mem_cons_of_mem _ hq,h1⟩
     ·cases h
   rcases key hf x hx with h1 | ⟨q,hq,h1⟩
   ·obtain ⟨j,hj,e⟩:=List.getElem_of_mem h1
    exact absurd hm' ((g4 (w:=w) (B:=0) (X:=fun _=>False) j x _ zav (Array.getElem?_eq_getElem om)).noMent id)
   ·obtain ⟨j,hj,e⟩:=List.getElem_of_mem hq
    have hj':j<parts.toList.length:=by omega
    exact (q2 j q parts.toList[j] zav (List.getElem?_eq_getElem hj')).2.2.2 x h1 id hm'

theorem own_inv {w:World} {B:Nat} {X:Nat→Prop} {E:Env} {id:Nat} {v:Value} (h:RepV w B X E (.own id) v):v=(E id).val:=by
 cases h with
 | c _ _ h=>cases h
 | own _=>rfl
theorem nilS_inv {w:World} {B:Nat} {X:Nat→Prop} {E:Env} {v:Value} (h:RepV w B X E .nilS v):v=.slice none 0 0:=by
 cases h with
 | c _ _ h=>cases h;rfl
theorem zy7 {P:Program} {w:World} {T e:Nat} (hu:P.underlying T=some (.slice e)) {ad:Addr} {n c:Nat}:(binOp .eql T (.slice (some ad) n c) (.slice none 0 0)).run P w=.ok (.bool false) w:=by
 have h:∀ d:Nat,(Op.equalIn (d+1) T (.slice (some ad) n c) (.slice none 0 0)).run P w=.ok false w:=fun d=>by simp [Op.equalIn,run_underlying hu]
 simp only [binOp]
 simp [Op.equal,Op.maxDepth,h 9999]
theorem zx9 {P:Program} {w:World} {op:BinOp} {T:Nat} {x y:Operand} {A A':Option Addr} {n n' c c':Nat}:(eqGuard op T x y (.slice A n c) (.slice A' n' c')).run P w=.ok () w:=by
 unfold eqGuard;cases op<;>rfl
theorem zqb (hs:Sat N w0 X0 σ E a w) {o:Oper} {lv:LV} {p:List Prop} (hv:vop2 P o σ.slot σ.blk=some (lv,p)) (ha:All p):VOk P w0 X0 σ E a w o lv:=by
 unfold vop2 at hv
 split at hv
 ·rename_i T parts ho
  split at hv
  ·rename_i fs z vs q hu hz hev
   split at hv
   ·rename_i pl hpl
    simp only [Option.map_eq_some_iff] at hv
    obtain ⟨out,hf,e⟩:=hv
    cases e
    refine zsp hs ho hz hev ha hf fun i zv ov g1 g2 hfl=>run_build w T _ ov ?_
    simp only [Program.built,g1,hu,g2,zku hpl]
    simpa using hfl
   ·cases hv
  ·rename_i n e z vs q hu hz hev
   split at hv
   ·rename_i m hm
    simp only [Option.map_eq_some_iff] at hv
    obtain ⟨out,hf,e'⟩:=hv
    cases e'
    refine zsp hs ho hz hev ha hf fun i zv ov g1 g2 hfl=>run_build w T _ ov ?_
    simp only [szOf,Option.map_eq_some_iff] at hm
    obtain ⟨ie,hie,rfl⟩:=hm
    simp only [Program.built,g1,hu,g2,hie]
    exact hfl
   ·cases hv
  ·cases hv
 ·rename_i T x lo hi ho
  split at hv
  ·rename_i s q hu hx
   split at hv
   ·rename_i l q1 h r1 h1 h2
    cases hv
    obtain ⟨habc,hv,_⟩:=All.append.1 ha
    obtain ⟨hab,ha3⟩:=All.append.1 habc
    obtain ⟨ha1,ha2⟩:=All.append.1 hab
    have e1:=(zbk hs hx ha1).1.str_inv
    have hbr:=zjk (P:=P) (cap:=s.length) (b:=false) hs h1 h2 ha2 ha3 hv.1 hv.2.1 hv.2.2 (Nat.le_refl _)
    refine ⟨.string ⟨((s.drop l.toNat).take (h.toNat - l.toNat)).toArray⟩,?_,.c _ _ (.str _),fun id hm=>by cases hm⟩
    have hz:(⟨s.toArray⟩:ByteArray).size=s.length:=by show s.toArray.size=s.length;simp
    simp only [execOp,ho,Sem.run_bind,e1,Option.map_none,run_sliceAt_string (P:=P) (t:=T) (h:=hu),Instr.slice,run_underlying hu,Result.andThen_ok,Option.isSome_none,Bool.false_eq_true,if_false,hz,hbr,Sem.run_pure,ByteArray.extract_mk]
   ·cases hv
  ·rename_i e fr sz n row q hu hx
   split at hv
   ·rename_i l q1 h r1 s h1 h2 hz
    cases hc:Nat.beq s sz with
    | false=>rw [hc] at hv;cases hv
    | true =>
     rw [hc] at hv
     simp only [cond_true,Option.some.injEq,Prod.mk.injEq] at hv
     obtain ⟨rfl,rfl⟩:=hv
     have:=Nat.eq_of_beq_eq_true hc
     subst this
     obtain ⟨habc,hv,_⟩:=All.append.1 ha
     obtain ⟨hab,ha3⟩:=All.append.1 habc
     obtain ⟨ha1,ha2⟩:=All.append.1 hab
     have hr:=(zbk hs hx ha1).1.ro_inv
     generalize he:a.eval x=v at hr
     cases hr with
     | ro _ _ _ _ A ad cap cv hcap hA hlt hX hb hsz ho1 hcc hrr =>
      have hbr:=zjk (P:=P) (cap:=cap) (b:=true) hs h1 h2 ha2 ha3 hv.1 hv.2.1 hv.2.2 hcap
      have hsl:=zn4 (P:=P) hu hz (A:=A) hbr
      refine ⟨_,by simp only [execOp,ho,Sem.run_bind,he,Option.map_none];rw [hsl];rfl,.c _ _ ?_,fun id hm=>by cases hm⟩
      have hln:l.toNat≤n:=by omega
      refine .ro fr s (h.toNat - l.toNat) _ _ (ad.add (l.toNat * s)) (cap - l.toNat) (fun i j => cv (l.toNat + i) j) om (fun h0 => ?_) (fun h0 => by rw [zes]; exact hlt om) (fun h0 => by rw [zes]; exact hX om)
        (fun h0 hf=>by rw [zes];exact hb om hf) (fun i hi=>hsz _ om) (fun i hi=>ho1 _ om) (fun i j hi hj=>?_) fun i j lv hi hl=>hrr _ j lv om hl
      ·rw [if_neg om,hA om];rfl
      ·rw [zi1,← Nat.add_assoc,← Nat.add_mul]
       exact hcc _ j om hj
   ·cases hv
  ·cases hv
 ·rename_i T x i ok ho
  split at hv
  ·rename_i K V id p kv q hu hx hi
   split at hv
   ·rename_i kd m hb
    split at hv
    ·rename_i k hk
     cases hc:(kdOk P K kd&&mapTy P V m) with
     | false=>rw [hc] at hv;cases hv
     | true =>
      rw [hc] at hv
      simp only [cond_true,Option.some.injEq,Prod.mk.injEq] at hv
      obtain ⟨rfl,rfl⟩:=hv
      simp only [Bool.and_eq_true] at hc
      obtain ⟨ha1,ha2⟩:=All.append.1 ha
      obtain ⟨b,g1,g2⟩:=(zbk hs hx ha1).1.mp_inv
      obtain ⟨b',es,ck,k1,k2,k3,k4⟩:=hs.blks _ _ hb
      rw [g1] at k1;cases k1
      exact zqa hs ho hu g2 k3 k4 (zbk hs hi ha2).1 hk hc.1 hc.2
    ·cases hv
   ·cases hv
  ·rename_i K V kd m q kv r hu hx hi
   split at hv
   ·rename_i k hk
    obtain ⟨hc,e⟩:=zbw hv
    cases e
    simp only [Bool.and_eq_true] at hc
    obtain ⟨ha1,ha2⟩:=All.append.1 ha
    have hr:=(zbk hs hx ha1).1.rm_inv
    generalize he:a.eval x=v at hr
    cases hr with
    | rm _ _ b es ck hlt hX k3 k4=>exact zqa hs ho hu he k3 k4 (zbk hs hi ha2).1 hk hc.1 hc.2
   ·cases hv
  ·cases hv
 ·rename_i T x f ho
  split at hv
  ·rename_i fs l q hu hx
   split at hv
   ·rename_i fl hf
    split at hv
    ·rename_i v hag hl
     cases hv
     obtain ⟨g1,g2⟩:=zbk hs hx ha
     obtain ⟨vs,e1,e2,e3⟩:=g1.agg_inv
     obtain ⟨hlt,he⟩:=List.getElem?_eq_some_iff.1 hl
     have hv:vs[fl.offset]?=some (vs[fl.offset]' om):=Array.getElem?_eq_getElem om
     refine ⟨_,?_,e3 _ _ _ hl hv,fun id hm=>g2 id (.agg l _ id (List.mem_of_getElem? hl) hm)⟩
     simp only [execOp,ho,Sem.run_bind,e1,Instr.field,run_underlying hu,Result.andThen_ok,hf,asAgg,Sem.run_pure,part,zf5 hag,Bool.false_eq_true,if_false,hv]
    ·cases hv
   ·cases hv
  ·cases hv
 ·rename_i g first caps ho
  have hfst:first.isEmpty=true:=by
   cases hb:first.isEmpty with
   | true=>rfl
   | false=>rw [hb] at hv;cases hv
  rw [hfst] at hv
  simp only [cond_true,Option.map_eq_some_iff,Prod.mk.injEq] at hv
  obtain ⟨⟨xs,q⟩,hx,rfl,rfl⟩:=hv
  obtain ⟨h1,h2⟩:=zg5 hs hx ha
  have hf0:first=#[]:=by simpa [Array.isEmpty_iff] using hfst
  subst hf0
  refine ⟨.func (.func g) #[] (caps.map a.eval),?_,.clo g xs _ ?_ fun i lv v hl hv=>?_,fun id hm=>?_⟩
  ·simp [execOp,ho,Instr.makeFunc]
  ·simpa using h1
  ·obtain ⟨x,hx1,hx2,_⟩:=h2 i lv hl
   have:v=a.eval x:=by
    rw [← Array.getElem?_toList] at hv
    simp only [Array.toList_map,List.getElem?_map,hx1,Option.map_some,Option.some.injEq] at hv
    exact hv.symm
   rw [this];exact hx2
  ·cases hm with
   | clo _ _ y _ hy hm' =>
    obtain ⟨i,hi,e⟩:=List.getElem_of_mem hy
    obtain ⟨x,_,_,hx3⟩:=h2 i y zau
    exact hx3 id hm'
 ·rename_i T x ho
  split at hv
  ·rename_i e hu
   simp only [Option.map_eq_some_iff] at hv
   obtain ⟨⟨v,q⟩,hx,e⟩:=hv
   cases e
   obtain ⟨h1,h2⟩:=zbk hs hx ha
   exact ⟨.iface T (a.eval x),by simp only [execOp,ho,Instr.makeInterface,Sem.run_bind,run_underlying hu,Result.andThen_ok,Sem.run_pure],.ifc T v _ h1,fun id hm=>by cases hm with | ifc _ _ _ hm=>exact h2 id hm⟩
  ·cases hv
 ·rename_i T x y yT ho
  split at hv
  ·rename_i e id p1 q1 hu hx hy
   have key:∀ n,(∀ h:0<n,∃ ad cap,(E id).val=.slice (some ad) n cap)→(LV.bool false,p1++q1++[0<n])=(lv,p)→VOk P w0 X0 σ E a w o lv:=fun n hval e=>by
    cases e
    obtain ⟨hab,hc⟩:=All.append.1 ha
    obtain ⟨ha1,ha2⟩:=All.append.1 hab
    obtain ⟨ad,cap,hv⟩:=hval hc.1
    have r1:=own_inv (zbk hs hx ha1).1
    have r2:=nilS_inv (zbk hs hy ha2).1
    refine ⟨.bool false,?_,.c _ _ (.bool false),fun id hm=>by cases hm⟩
    simp only [execOp,ho,Sem.run_bind,r1,r2,hv,zy7 hu,zx9,Result.andThen_ok,Sem.run_pure]
   split at hv
   ·rename_i sz n row hb
    refine key n (fun h0=>?_) (Option.some.inj hv)
    obtain ⟨_,h | ⟨b,cap,vs,T',_,h,_⟩⟩:=hs.blks id _ hb
    ·omega
    ·exact ⟨_,_,h⟩
   ·rename_i wd cl sz n rows hb
    refine key n (fun h0=>?_) (Option.some.inj hv)
    obtain ⟨_,_,_,h | ⟨b,cap,vs,T',_,h,_⟩⟩:=hs.blks id _ hb
    ·omega
    ·exact ⟨_,_,h⟩
   ·cases hv
  ·cases hv
 ·cases hv
theorem zxx (hs : Sat N w0 X0 σ E a w) {o : Oper} {d : Nat} {T e : TypeId} (hrun : (execOp a.eval o).run P w = .ok (.value (.pointer (some ⟨w.heap.size, 0, none⟩))) (w.alloc (.cells #[.pointer none, .slice none 0 0] T)))
    (hi:σ.used d=false) (nw:List Nat) (p:List Prop):MOk P N w0 X0 σ a w o ⟨some (.vp d 0),noK,oneB d (.bld T e []),nw,p⟩:=by
 intro K Q hk
 let ei:EI:=⟨some w.heap.size,0,none,0,0,0⟩
 have hh:∀ b,b<w.heap.size→(w.alloc (.cells #[.pointer none,.slice none 0 0] T)).heap[b]?=w.heap[b]?:=fun b hb=>Below.heap_alloc _ _ _ hb
 have h2:Sat N w0 X0 (σ.upd noK (oneB d (.bld T e []))) (E.setFS (one d (.bld T e []) ei) (fun _ _=>False)) a (w.alloc (.cells #[.pointer none,.slice none 0 0] T)):=by
  rw [← zdd d (.bld T e []) ei,← FS.setF_eq]
  refine hs.setFS noK (one d (.bld T e []) ei) (fun _ _=>False) (fun i x hx=>?_) zas (fun b hb _=>hh b hb) (fun i x b hx hb=>?_) (fun i j x y b hx hy _ _=>(zd9 hx).1.trans (zd9 hy).1.symm) (hs.below.alloc hs.below.size _) (fun i cells ei' lv id hx=>?_) (fun i wd cl sz n rows ei' k id hx=>?_) fun i x hx=>?_
  ·obtain ⟨rfl,rfl⟩:=zd9 hx;exact .inl hi
  ·obtain ⟨rfl,rfl⟩:=zd9 hx
   rcases hb with hb | ⟨_,hb⟩
   ·simp only [ei,Option.some.injEq] at hb;exact .inl om
   ·exact hb.elim
  ·obtain ⟨_,h⟩:=zd9 hx;cases h
  ·obtain ⟨_,h⟩:=zd9 hx;cases h
  ·obtain ⟨rfl,rfl⟩:=zd9 hx
   refine ⟨w.heap.size,.slice none 0 0,.pointer none,by simp [Env.setFS,one,ei],⟨hs.below.size,heap_alloc_new w _,.inl rfl,World.ownsRow_nil _ _ _ _,by simp [Value.ownBlock]⟩,fun g=>?_⟩
   simp [Env.setFS,one,Value.ownBlock]
 refine zd3 hrun (hk _ _ _ h2 (fun h=>by cases h) fun lv hlv=>?_)
 cases hlv
 exact ⟨.vp d 0 w.heap.size (by simp [Env.setFS,one,ei]),fun id hmm=>by cases hmm;simp [FS.upd,oneB]⟩
theorem nilP_c {w:World} {B:Nat} {X:Nat→Prop} {v:Value} (h:RepC w B X .nilP v):v=.pointer none:=by cases h;rfl
theorem nilS_c {w:World} {B:Nat} {X:Nat→Prop} {v:Value} (h:RepC w B X .nilS v):v=.slice none 0 0:=by cases h;rfl
theorem zxy (hs:Sat N w0 X0 σ E a w) {o:Oper} {h:Hint} {D:MD} (hm:mopN P o σ.slot σ.blk h=some D) (ha:All D.vcs) (hnew:∀ i∈D.new,σ.used i=false):MOk P N w0 X0 σ a w o D:=by
 unfold mopN at hm
 split at hm
 ·rename_i T d ho hd
  split at hm
  ·rename_i e _ _
   split at hm
   ·rename_i hz
    obtain ⟨_,rfl⟩:=zbw hm
    obtain ⟨i,z,g1,g2,g3,g4⟩:=zew hz
    have hsz:z.cells.size=2:=g3
    have e0:=nilP_c (g4 (w:=w) (B:=0) (X:=fun _=>False) 0 _ (z.cells[0]' om) rfl (Array.getElem?_eq_getElem om))
    have e1:=nilS_c (g4 (w:=w) (B:=0) (X:=fun _=>False) 1 _ (z.cells[1]' om) rfl (Array.getElem?_eq_getElem om))
    have ez:z.cells=#[.pointer none,.slice none 0 0]:=by
     apply Array.ext
     ·exact hsz
     ·intro j h1 h2
      have h3:j<2:=h2
      match j,h3 with
      | 0,_=>exact e0
      | 1,_=>exact e1
    refine zxx hs ?_ (hnew d zas) _ _
    rw [← ez]
    simp only [execOp,ho,Sem.run_bind,Instr.alloc,zeroValue,typeInfo,run_program,Result.andThen_ok,g1,g2,Sem.run_pure,newVar,newRow,run_newObj]
    rfl
   ·cases hm
  ·cases hm
 ·cases hm
theorem zvh {l m:List LV} (h:zvi l m) (h1:∀ lv∈l,isOne lv=true):∀ lv∈m,isOne lv=true:=fun y hy=>by
 obtain ⟨j,hj,e⟩:=List.getElem_of_mem hy
 have hl:j<l.length:=by have:=h.1;omega
 rcases h.2 j l[j] y (List.getElem?_eq_getElem hl) zav with q | ⟨_,fr,sz,row,q⟩
 ·rw [← q];exact h1 _ (List.getElem_mem hl)
 ·rw [q];rfl
theorem zvg {w:World} {B:Nat} {X:Nat→Prop} {l m:List LV} {f:Nat→Option Value} (h:zvi l m) (h1:∀ (j:Nat) lv v,l[j]?=some lv→f j=some v→RepC w B X lv v):∀ (j:Nat) lv v,m[j]?=some lv→f j=some v→RepC w B X lv v:=fun j y v hy hv=>by
 have hj:=(List.getElem?_eq_some_iff.1 hy).1
 have hl:j<l.length:=by have:=h.1;omega
 have h2:=h1 j l[j] v (List.getElem?_eq_getElem hl) hv
 rcases h.2 j l[j] y (List.getElem?_eq_getElem hl) hy with q | ⟨q,fr,sz,row,e⟩
 ·rw [← q];exact h2
 ·rw [q] at h2
  have h3:=(RepV.c (E:=⟨fun _=>⟨none,0,none,0,0,0⟩,fun _ _=>False⟩) _ _ h2).nilS_inv
  rw [h3,e]
  exact .ro fr sz 0 row none ⟨0,0,none⟩ 0 (fun _ _=>undef) (Nat.le_refl _) (fun h=>absurd h (Nat.lt_irrefl _)) (fun h=>absurd h (Nat.lt_irrefl _)) (fun h=>absurd h (Nat.lt_irrefl _)) (fun h=>absurd h (Nat.lt_irrefl _)) (fun i h=>absurd h (Nat.not_lt_zero _)) (fun i h=>absurd h (Nat.not_lt_zero _)) (fun i j h=>absurd h (Nat.not_lt_zero _)) fun i j lv h=>absurd h (Nat.not_lt_zero _)
theorem Sat.re {σ σ' : FS} {E : Env} {w : World} {id sz n0 n : Nat} {row0 row : Nat → List LV} (hs : Sat N w0 X0 σ E a w) (e1 : σ'.slot = σ.slot) (e2 : σ'.used = σ.used) (h0 : σ.blk id = some (.arr sz n0 row0)) (h1 : σ'.blk id = some (.arr sz n row))
    (hne:∀ j,j≠id→σ'.blk j=σ.blk j) (hr:zy9 n0 n row0 row):Sat N w0 X0 σ' E a w∧Own σ' E X0=Own σ E X0:=by
 have hb:∀ j,σ'.blk j≠none↔σ.blk j≠none:=fun j=>by
  by_cases e:j=id
  ·subst e;rw [h0,h1];simp
  ·rw [hne j e]
 have ha:∀ i b,OwnAt σ'.blk E i b↔OwnAt σ.blk E i b:=fun i b=>by
  unfold OwnAt
  by_cases e:i=id
  ·subst e;rw [h0,h1];simp [Mul]
  ·rw [hne i e]
 have ho:Own σ' E X0=Own σ E X0:=by
  funext b
  simp only [Own,ha]
 refine ⟨⟨hs.size, hs.defers, hs.below, fun t lv ht => ?_, fun j c hj => ?_, fun i j b hi hj => hs.injA i j b ((ha i b).1 hi) ((ha j b).1 hj), fun j hj => by rw [e2]; exact hs.live j ((hb j).1 hj), fun t lv i ht hm => ?_, fun j cells lv i hj hl hm => ?_, fun j wd cl sz n rows k i hj hk hr => ?_,
   fun b o h=>⟨(hs.baseA b o h).1,fun j hj=>(hs.baseA b o h).2 j ((ha j b).1 hj)⟩,hs.bown,fun j ei hp hj=>hs.pin j ei hp ((hb j).1 hj),fun i hi=>by rw [e2];exact hs.pu i hi,hs.szf,hs.gh,hs.xge⟩,ho⟩
 ·rw [ho];rw [e1] at ht;exact hs.slots t lv ht
 ·rw [ho]
  by_cases e:j=id
  ·subst e
   rw [h1] at hj;cases hj
   obtain ⟨e3,hrow⟩:=hr
   subst e3
   have hk:=hs.blks j _ h0
   refine ⟨hk.1,?_⟩
   rcases hk.2 with f1 | ⟨b,cap,vs,T',f1,f2,f3,f4,f5,f6,f7,f8⟩
   ·exact .inl f1
   ·refine .inr ⟨b,cap,vs,T',f1,f2,f3,f4,f5,f6,f7,fun k hk=>?_⟩
    exact (f8 k hk).imp (fun q=>by rw [← q];exact (hrow k hk).1.symm) fun q=>⟨fun lv hl=>zvh (hrow k hk) q.1 lv hl,fun j lv v hj hv=>zvg (hrow k hk) q.2 j lv v hj hv⟩
  ·rw [hne j e] at hj;exact hs.blks j c hj
 ·rw [e2];rw [e1] at ht;exact hs.wfs t lv i ht hm
 ·rw [e2]
  by_cases e:j=id
  ·subst e;rw [h1] at hj;cases hj
  ·rw [hne j e] at hj;exact hs.wfb j cells lv i hj hl hm
 ·rw [e2]
  by_cases e:j=id
  ·subst e;rw [h1] at hj;cases hj
  ·rw [hne j e] at hj;exact hs.wfn j wd cl sz n rows k i hj hk hr
theorem zis (hs:Sat N w0 X0 σ E a w) {o:Oper} {h:Hint} {D:MD} (hm:mop P o σ.slot σ.blk h=some D) (ha:All D.vcs) (hnew:∀ i∈D.new,σ.used i=false):MOk P N w0 X0 σ a w o D:=by
 rcases zit hm with hm | ⟨wk,id,n,row,D0,hi0,e,h0,h1⟩ | hm
 ·exact zqr hs hm ha hnew
 rotate_left
 ·exact zxy hs hm ha hnew
 ·obtain ⟨sz,n0,row0,hu,rfl⟩:=zng h1
  obtain ⟨⟨ha1,ha2⟩,_⟩:=ha
  intro K Q hk
  refine zqr hs h0 ha1 hnew K Q fun v w' E' g1 g2 g3=>?_
  obtain ⟨q1, q2⟩ := g1.re (σ' := σ.upd D0.K fun j => bif Nat.beq j id then some (.arr sz n row) else D0.ub j) (id := id) (sz := sz) (n0 := n0) (n := n) (row0 := row0) (row := row) rfl (by
    funext j
    simp only [FS.upd]
    cases hb:Nat.beq j id with
    | true=>rw [Nat.eq_of_beq_eq_true hb,hu];simp
    | false=>rfl) (by simp only [FS.upd,hu]) (by simp only [FS.upd,Nat.beq_refl,cond_true]) (fun j hj=>by
      have hb:Nat.beq j id=false:=by
        cases hb:Nat.beq j id with
        | true=>exact absurd (Nat.eq_of_beq_eq_true hb) hj
        | false=>rfl
      simp only [FS.upd,hb,cond_false]) (zvu ha2)
  refine hk v w' E' q1 g2 fun lv hlv=>?_
  obtain ⟨k1,k2⟩:=g3 lv hlv
  refine ⟨by rw [q2];exact k1,fun i hm=>?_⟩
  have:=k2 i hm
  simp only [FS.upd] at this ⊢
  cases hb:Nat.beq i id with
  | true=>simp
  | false=>simpa [hb] using this
end mop
end Go.Lite
