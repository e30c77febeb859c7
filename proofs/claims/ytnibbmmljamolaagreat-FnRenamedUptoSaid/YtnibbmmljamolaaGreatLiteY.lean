/- Regions whose order is left open: operations that do not touch each other's claims may run in whatever order. Conditions: none; over any program. -/
import Derived.Test.YtnibbmmljamolaaGreatLiteX
import Derived.Orders
set_option linter.unusedVariables false
namespace Go.Lite
open Go Go.RowKit

structure Rec where
  o:Oper
  h:Hint
  D:MD
  A:List Nat
  B:List Nat

def fR{α:Type}(l:List Nat)(f:Nat→Option α):Nat→Option α:=fun i=>bif mem l i then f i else none
def XF(S : Nat → Bool) : List Rec → Nat → FS → FS
  |[],_,σ=>σ
  |r :: l,i,σ=>XF S l (i+1) (bif S i then σ.dl r.o.dst r.D else σ)
def wB(r:Rec)(id:Nat):Bool:=(r.D.ub id).isSome||r.D.K id
def noDst(d : Option Nat)(l : List Nat) : Bool := match d with
  |some t=>!mem l t
  |none=>true
def neDst : Option Nat → Option Nat → Bool
  |some t,some u=>!Nat.beq t u
  |_,_=>true
def zur(r s : Rec) : Bool :=
  noDst r.o.dst s.A&&(neDst r.o.dst s.o.dst&&(noDst s.o.dst r.A&&((r.D.new++r.B).all (fun id=>!wB r id||(!mem s.B id&&!wB s id))&&(s.D.new++s.B).all (fun id=>!wB s id||!mem r.B id))))

section
variable {S S':Nat→Bool}

theorem zq9{σ:FS}{d:Option Nat}{D:MD}{t:Nat}(h:d≠some t):(σ.dl d D).slot t=σ.slot t:=by simp[FS.dl,h]
theorem zuk{σ:FS}{d:Option Nat}{r:Rec}{id:Nat}(h:wB r id=false):(σ.dl d r.D).blk id=σ.blk id:=by simp only[wB,Bool.or_eq_false_iff,Option.isSome_eq_false_iff,Option.isNone_iff_eq_none] at h;simp[FS.dl,FS.upd,h.1,h.2]

theorem z1o(t : Nat) : ∀(l : List Rec) (i : Nat) (σ σ' : FS), σ.slot t = σ'.slot t → (∀k r, l[k]? = some r → S (i + k) ≠ S' (i + k) → r.o.dst ≠ some t) → (XF S l i σ).slot t = (XF S' l i σ').slot t
  |[],i,σ,σ',h,_=>h
  |r :: l, i, σ, σ', h, hk => by
    refine z1o t l (i+1) _ _ ?_ fun k s hs hne=>hk (k+1) s (by simpa using hs) vcm
    have h0:=hk 0 r rfl
    cases h1:S i<;>cases h2:S' i<;>simp only[oE,oD]
    · exact h
    · rw [zq9 (h0 (by simp [h1,h2]))];exact h
    · rw [zq9 (h0 (by simp [h1,h2]))];exact h
    · simp only [FS.dl];split
      · rfl
      · exact h
theorem z4p(id : Nat) : ∀(l : List Rec) (i : Nat) (σ σ' : FS), σ.blk id = σ'.blk id → (∀k r, l[k]? = some r → S (i + k) ≠ S' (i + k) → wB r id = false) → (XF S l i σ).blk id = (XF S' l i σ').blk id
  |[],i,σ,σ',h,_=>h
  |r :: l, i, σ, σ', h, hk => by
    refine z4p id l (i+1) _ _ ?_ fun k s hs hne=>hk (k+1) s (by simpa using hs) vcm
    have h0:=hk 0 r rfl
    cases h1:S i<;>cases h2:S' i<;>simp only[oE,oD]
    · exact h
    · rw [zuk (h0 (by simp [h1,h2]))];exact h
    · rw [zuk (h0 (by simp [h1,h2]))];exact h
    · simp only [FS.dl,FS.upd]
      grind
theorem z1n(id : Nat) : ∀(l : List Rec) (i : Nat) (σ : FS), (XF S l i σ).used id = true → σ.used id = true ∨ ∃k r, l[k]? = some r ∧ S (i + k) = true ∧ id ∈ r.D.new
  |[],i,σ,h=>.inl h
  |r :: l, i, σ, h => by
    rcases z1n id l (i+1) _ h with h | ⟨k,s,h1,h2,h3⟩
    · cases hS:S i with
      |false=>rw[hS] at h;exact .inl h
      |true =>
        rw[hS] at h
        simp only[oE,FS.dl,oj] at h
        rcases h with h | h
        · exact .inr ⟨0,r,rfl,hS,mem_iff.1 h⟩
        · grind
    · exact .inr ⟨k+1,s,vcY,vcm,h3⟩

theorem z5u{σ : FS}{r s : Rec}(hd : neDst r.o.dst s.o.dst = true)(hw : ∀id, wB r id = true → wB s id = false) : (σ.dl r.o.dst r.D).dl s.o.dst s.D = (σ.dl s.o.dst s.D).dl r.o.dst r.D := by
 simp only[FS.dl,FS.mk.injEq];refine⟨?_,?_,?_⟩
 ·funext t;by_cases h1 : s.o.dst = some t
  ·by_cases h2 : r.o.dst = some t
   ·rw [h1, h2] at hd; simp [neDst] at hd
   grind
  grind
 ·funext id;simp only [FS.upd];cases h1 : wB r id with
  |true =>have h2:=hw id h1;simp only[wB] at h2;grind
  |false =>simp only[wB] at h1;grind
 grind

theorem XF_dl{r : Rec} : ∀(l : List Rec) (i : Nat) (σ : FS), (∀k s, l[k]? = some s → S (i + k) = true → neDst r.o.dst s.o.dst = true ∧ ∀id, wB r id = true → wB s id = false) → XF S l i (σ.dl r.o.dst r.D) = (XF S l i σ).dl r.o.dst r.D
  |[],i,σ,_=>rfl
  |s :: l, i, σ, h => by
    simp only[XF]
    have ih:=fun σ'=>XF_dl l (i+1) σ' fun k u hu hS=>h (k+1) u (by simpa using hu) vcm
    cases hS:S i with
    |false=>simp only[oD];exact ih σ
    |true =>
      obtain⟨h1,h2⟩:=h 0 s rfl (by simpa using hS)
      rw[z5u h1 h2]
      grind

theorem z4q{r : Rec}(j : Nat) : ∀(l : List Rec) (i : Nat) (σ : FS) (m : Nat), l[m]? = some r → i + m = j → S j = false → (∀k, S' k = if k = j then true else S k) →
    (∀k s,l[k]?=some s→m<k→S (i+k)=true→neDst r.o.dst s.o.dst=true∧∀id,wB r id=true→wB s id=false)→XF S' l i σ=(XF S l i σ).dl r.o.dst r.D
  |[],i,σ,m,h,_,_,_,_=>by simp at h
  |s :: l, i, σ, 0, h, hj, hS, hS', hk => by
    simp at h
    subst h
    simp only[Nat.add_zero] at hj
    subst hj
    simp only[XF,hS,hS' i]
    have e : ∀σ', XF S' l (i + 1) σ' = XF S l (i + 1) σ' := by
      have : ∀(l : List Rec) (n : Nat) (σ' : FS), i < n → XF S' l n σ' = XF S l n σ' := by
        intro l
        induction l with
        |nil=>intro n σ' _;rfl
        |cons x l ih =>
          intro n σ' hn
          simp only[XF]
          grind
      grind
    rw[e]
    exact XF_dl l (i+1) σ fun k u hu hSk=>hk (k+1) u (by simpa using hu) vdh vcm
  |s :: l, i, σ, m + 1, h, hj, hS, hS', hk => by
    simp only[XF,hS' i,if_neg (show ¬i=j by omega)]
    exact z4q j l (i+1) _ m vc3 vdh hS hS' fun k u hu hm hSk=>hk (k+1) u (by simpa using hu) vdh vcm
end

def zsv(M:List Nat)(m:Nat)(e:Edge):Nat:=bif Region.binds .any e then(m ||| (1 <<< e.on)) ||| M.getD e.on 0 else m
def zu5(M:List Nat)(o:Oper):Nat:=o.after.toList.foldl (zsv M) 0
def masks : List Oper → List Nat → List Nat
  |[],M=>M
  |o :: r,M=>masks r (M++[zu5 M o])
def okM(M : List Nat) : List Oper → Nat → Bool
  |[],_=>true
  |o :: r,j=>Nat.beq (M.getD j 0) (zu5 M o)&&(o.after.toList.all (fun e=>!Region.binds .any e||Nat.blt e.on j)&&okM M r (j+1))
def zou(r s:Rec):Bool:=r.D.new.all fun i=>!mem s.D.new i
def zw4(M : List Nat)(r : Rec)(i : Nat) : List Rec → Nat → Bool
  |[],_=>true
  |s :: l,j=>(Nat.testBit (M.getD j 0) i||zur r s)&&(zou r s&&zw4 M r i l (j+1))
def zn7(M : List Nat) : List Rec → Nat → Bool
  |[],_=>true
  |r :: l,i=>zw4 M r i l (i+1)&&zn7 M l (i+1)

mutual
def idsOf : LV → List Nat
  |.agg l=>zt8 l
  |.tup l=>zt8 l
  |.vp id _=>[id]
  |.own id=>[id]
  |.ap id _ _ _=>[id]
  |.mp id=>[id]
  |.whn _ v=>idsOf v
  |.k _ _=>[]
  |.er _=>[]
  |.fv=>[]
  |.any=>[]
  |.ifc _ v=>idsOf v
  |.int _ _=>[]
  |.bool _=>[]
  |.str _=>[]
  |.ro _ _ _ _=>[]
  |.ep _ _=>[]
  |.nilS=>[]
  |.nilM=>[]
  |.rm _ _=>[]
  |.nilP=>[]
  |.clo _ l=>zt8 l
  |.fn _=>[]
def zt8 : List LV → List Nat
  |[]=>[]
  |v :: r=>idsOf v++zt8 r
end
def zn6(ops : List Oper)(o : Oper) : List Nat :=
  (o.op.operands.toList.filterMap fun | .tmp t=>some t | _=>none) ++
  (match o.guard with
   | some (g, _) => match ops[g]? with
     | some o' => match o'.dst with
       |some t=>[t]
       |none=>[]
     |none=>[]
   |none=>[])
def zlo(sl : Nat → Option LV) : List Nat → List Nat
  |[]=>[]
  | t :: r => match sl t with
    |some lv=>idsOf lv++zlo sl r
    |none=>zlo sl r
def reach(blk : Nat → Option BC) : Nat → List Nat → List Nat
  |0,l=>l
  | n + 1, l => l ++ reach blk n (l.flatMap fun i => match blk i with
    |some (.var cs)=>zt8 cs
    |_=>[])
def footB(s:St)(ops:List Oper)(o:Oper):List Nat:=bif zo7 o.op then reach (look s.blks) 3 (zlo (look s.slots) (zn6 ops o)) else zlo (look s.slots) (zn6 ops o)
def nextS(s : St)(d : Option Nat)(D : MD) : St :=
  ⟨match d, D.dst with
   |some d,some lv=>(d,lv) :: s.slots
   |_,_=>s.slots,zsf s D,D.new++s.used⟩
def dstOk : Option Nat → MD → Bool
  |some _,D=>D.dst.isSome
  |none,_=>true

def zxy(P : Program)(N : Nat)(ops : List Oper)(hints : List (Nat × Hint))(u0 : List Nat) : List Oper → Nat → St → Option (St × List Prop × List Rec)
  |[],_,s=>some (s,[],[])
  |o :: r, i, s =>
    match delta P ops (fR (zn6 ops o) (look s.slots)) (fR (footB s ops o) (look s.blks)) o ((look hints i).getD .no) with
    | some D => bif okDst N o.dst && (dstOk o.dst D && D.new.all (fun i => !memU u0 i)) then
        match zxy P N ops hints u0 r (i+1) (nextS s o.dst D) with
        |some (s',p,rs)=>some (s',D.vcs++p,⟨o,(look hints i).getD .no,D,zn6 ops o,footB s ops o⟩ :: rs)
        |none=>none
      else none
    |none=>none
def zv1(P : Program)(N : Nat)(ops : List Oper)(hints : List (Nat × Hint))(i : Nat)(s : St) : Option (St × List Prop) :=
  match zxy P N ops hints s.used ops i s with
  |some (s',p,rs)=>bif okM (masks ops []) ops 0&&zn7 (masks ops []) rs 0 then some (s',p) else none
  |none=>none

theorem zxw{M : List Nat}{i : Nat} : ∀{l : List Edge} {m : Nat}, Nat.testBit (l.foldl (zsv M) m) i = true → Nat.testBit m i = true ∨ ∃e ∈ l, Region.binds .any e = true ∧ (e.on = i ∨ Nat.testBit (M.getD e.on 0) i = true)
  |[],m,h=>.inl h
  |e :: l, m, h => by
    rcases zxw (l:=l) h with h1 | ⟨e',h1,h2⟩
    · simp only [zsv] at h1
      cases hb:Region.binds .any e with
      |false=>rw[hb] at h1;exact .inl h1
      |true =>
        rw[hb] at h1
        simp only[oE,Nat.testBit_or,oj] at h1
        rcases h1 with(h1 | h1) | h1
        · grind
        · refine .inr ⟨e,vdj,hb,.inl ?_⟩
          rw[Nat.one_shiftLeft] at h1
          grind
        · grind
    · grind

theorem zvh{M : List Nat} : ∀{l : List Oper} {j0 : Nat}, okM M l j0 = true → ∀(k : Nat) o, l[k]? = some o → M.getD (j0 + k) 0 = zu5 M o ∧ ∀e ∈ o.after, Region.binds .any e = true → e.on < j0 + k
  |[],j0,h,k,o,ho=>by simp at ho
  |x :: l, j0, h, k, o, ho => by
    simp only[okM,oc] at h
    cases k with
    |zero =>
      simp at ho
      subst ho
      refine⟨oo h.1,fun e he hb=>?_⟩
      have:=o4.1 h.2.1 e (by simpa using he)
      simp_all
    |succ k =>
      have:=zvh h.2.2 k o (by simpa using ho)
      grind

theorem zqn{M : List Nat}{r : Rec}{i : Nat} : ∀{l : List Rec} {j0 : Nat}, zw4 M r i l j0 = true → ∀(k : Nat) s, l[k]? = some s → (Nat.testBit (M.getD (j0 + k) 0) i = true ∨ zur r s = true) ∧ zou r s = true
  |[],j0,h,k,s,hs=>by simp at hs
  |x :: l, j0, h, k, s, hs => by
    simp only[zw4,oc,oj] at h
    cases k with
    |zero=>simp at hs;subst hs;exact⟨h.1,h.2.1⟩
    |succ k =>
      have:=zqn h.2.2 k s (by simpa using hs)
      grind
theorem zei{M : List Nat} : ∀{l : List Rec} {i0 : Nat}, zn7 M l i0 = true → ∀(i j : Nat) r s, l[i]? = some r → l[j]? = some s → i < j → (Nat.testBit (M.getD (i0 + j) 0) (i0 + i) = true ∨ zur r s = true) ∧ zou r s = true
  |[],i0,h,i,j,r,s,hr,hs,hij=>by simp at hr
  |x :: l, i0, h, i, j, r, s, hr, hs, hij => by
    simp only[zn7,oc] at h
    cases j with
    |zero=>omega
    |succ j =>
      cases i with
      |zero =>
        have:=zqn h.1 j s (by simpa using hs)
        grind
      |succ i =>
        have:=zei h.2 i j r s (by simpa using hr) (by simpa using hs) vdh
        grind

theorem fR_le{α : Type}{l : List Nat}{f g : Nat → Option α}(h : ∀i, i ∈ l → ∀x, f i = some x → g i = some x) : Le (fR l f) g := by
 intro i x hx;unfold fR at hx;cases hm:mem l i with
 |false =>rw[hm] at hx;cases hx
 |true =>rw[hm] at hx;exact h i (mem_iff.1 hm) x hx

section
variable {P:Program} {N:Nat} {ops:List Oper} {hints:List (Nat×Hint)} {u0:List Nat}

theorem z5e{s : St}{σ : FS}{d : Option Nat}{D : MD}(h1 : Le (look s.slots) σ.slot)(h2 : Le (look s.blks) σ.blk)(hd : dstOk d D = true) : Le (look (nextS s d D).slots) (σ.dl d D).slot ∧ Le (look (nextS s d D).blks) (σ.dl d D).blk := by
 constructor
 ·intro t x hx;cases d with
  |none =>simp only[nextS] at hx;simp only[FS.dl];exact h1 t x hx
  |some d =>
   cases hD:D.dst with
   |none =>simp[dstOk,hD] at hd
   |some lv =>
    simp only[nextS,hD,zbx] at hx;simp only[FS.dl,oq];by_cases e:t=d
    ·grind
    simp only[e] at hx;simp only[Ne.symm e];exact h1 t x hx
 intro i c hc;have:=zl9 s D i c hc;simp only[FS.dl,FS.upd] at this ⊢;cases hu:D.ub i with
 |some c' =>rw[hu] at this;exact this
 |none =>
  rw[hu] at this;cases hK:D.K i with
  |true =>simp[hK] at this
  | false =>simp only[hK] at this ⊢;exact h2 i c this

theorem zpd : ∀{l : List Oper} {i : Nat} {s s' : St} {vcs : List Prop} {rs : List Rec} {σ : FS}, zxy P N ops hints u0 l i s = some (s', vcs, rs) → All vcs → Le (look s.slots) σ.slot → Le (look s.blks) σ.blk → (∀j, σ.used j = true → memU s.used j = true) → ∀n0 : Nat,
    rs.length=l.length ∧
    (∀ (k : Nat) r, rs[k]? = some r → l[k]? = some r.o ∧ okDst N r.o.dst = true ∧ All r.D.vcs ∧ (∀ id ∈ r.D.new, memU u0 id = false) ∧
      delta P ops (fR r.A (XF (fun m=>decide (m<n0+k)) rs n0 σ).slot) (fR r.B (XF (fun m=>decide (m<n0+k)) rs n0 σ).blk) r.o r.h=some r.D) ∧
    Le (look s'.slots) (XF (fun _=>true) rs n0 σ).slot∧Le (look s'.blks) (XF (fun _=>true) rs n0 σ).blk∧∀j,(XF (fun _=>true) rs n0 σ).used j=true→memU s'.used j=true
  |[], i, s, s', vcs, rs, σ, h, ha, h1, h2, h3, n0 => by
    cases h
    exact⟨rfl,fun k r hr=>by simp at hr,h1,h2,h3⟩
  |o :: l, i, s, s', vcs, rs, σ, h, ha, h1, h2, h3, n0 => by
    simp only[zxy] at h
    split at h
    · rename_i D hD
      obtain⟨hc,h⟩:=zec h
      simp only[oc] at hc
      split at h
      · rename_i s1 p1 rs1 hgo
        cases h
        obtain⟨a1,a2⟩:=All.append.1 ha
        obtain⟨n1,n2⟩:=z5e h1 h2 hc.2.1
        have hlast : ∀(l : List Rec) (n1 : Nat) (σ : FS) (m : Nat), m ≤ n1 → XF (fun k => decide (k < m)) l n1 σ = σ := by
          intro l
          induction l with
          |nil=>intro _ σ _ _;rfl
          |cons x l ih =>
            intro n1 σ m hm
            simp only[XF,show decide (n1<m)=false from oJ vdh]
            exact ih _ _ _ vdh
        obtain ⟨q1, q2, q3⟩ := zpd (σ := σ.dl o.dst D) hgo a2 n1 n2 (fun j hj => by
          simp only[FS.dl,oj] at hj
          simp only[nextS,zkb,oj]
          exact hj.imp id (h3 j)) (n0+1)
        refine⟨by simp[q1],fun k r hr=>?_,?_⟩
        · cases k with
          |zero =>
            simp at hr
            subst hr
            refine⟨rfl,hc.1,a1,fun id hid=>by have:=o4.1 hc.2.2 id hid;simpa using this,?_⟩
            simp only[Nat.add_zero]
            rw[hlast _ _ _ _ (oz _)]
            exact zra (fun t x hx => by
              unfold fR at hx ⊢
              cases hm:mem (zn6 ops o) t with
              |false=>rw[hm] at hx;cases hx
              |true=>rw[hm] at hx;exact h1 t x hx) (fun t x hx=>by
              unfold fR at hx ⊢
              cases hm:mem (footB s ops o) t with
              |false=>rw[hm] at hx;cases hx
              |true=>rw[hm] at hx;exact h2 t x hx) hD
          |succ k =>
            obtain⟨g1,g2,g3,g4,g5⟩:=q2 k r (by simpa using hr)
            simp only[XF]
            grind
        · assumption
      · cases h
    · cases h

def z4j : Code → Bool
  |.region _ _ d=>d
  |_=>false
def upto(l:Array Bool):Nat→Bool:=fun k=>l.getD k false

theorem z4d{α : Type}{l : List Nat}{f : Nat → Option α}{i : Nat}(h : fR l f i ≠ none) : i ∈ l := by
 unfold fR at h;cases hm:mem l i with
 |false =>rw[hm] at h;exact absurd rfl h
 |true =>exact mem_iff.1 hm

theorem zlv{r : Rec}{f : Nat → Option LV}{b : Nat → Option BC}(h : delta P ops (fR r.A f) (fR r.B b) r.o r.h = some r.D) : ∀id, wB r id = true → id ∈ r.D.new ++ r.B := by
 intro id hid;obtain⟨h1,h2⟩:=zul h;simp only[wB,oj,Option.isSome_iff_ne_none] at hid;rw[List.mem_append];rcases hid with hid | hid
 ·rcases h1 id hid with h | h
  ·grind
  exact .inr (z4d h)
 exact .inr (z4d (h2 id hid))

theorem zyu{d e : Option Nat}(h : neDst d e = true) : neDst e d = true := by
 cases d with
 |none =>cases e<;>rfl
 |some d =>
  cases e with
  |none =>rfl
  |some e =>
   simp only[neDst] at h ⊢;cases hb:Nat.beq e d with
   |false =>rfl
   |true =>simp_all
theorem zqt{d:Option Nat}{l:List Nat}(h:noDst d l=true):∀t∈l,d≠some t:=by intro t ht hd;subst hd;simp only[noDst,od] at h;rw[mem_iff.2 ht] at h;cases h

structure Ap(r s : Rec) : Prop where
  d1:∀t∈s.A,r.o.dst≠some t
  d2:∀t∈r.A,s.o.dst≠some t
  dd:neDst r.o.dst s.o.dst=true
  b1:∀id∈s.B,wB r id=false
  b2:∀id∈r.B,wB s id=false
  bb:∀id,wB r id=true→wB s id=false

theorem Ap.symm{r s : Rec}(h : Ap r s) : Ap s r :=
  ⟨h.d2, h.d1, zyu h.dd, h.b2, h.b1, fun id hid => by
    cases hr:wB r id with
    |false=>rfl
    |true=>have:=h.bb id hr;rw[hid] at this;cases this⟩

theorem zib{r s : Rec}(h : zur r s = true)(hr : ∀id, wB r id = true → id ∈ r.D.new ++ r.B)(hs : ∀id, wB s id = true → id ∈ s.D.new ++ s.B) : Ap r s := by
 simp only[zur,oc] at h;obtain⟨h1,h2,h3,h4,h5⟩:=h;have k4:∀id,wB r id=true→mem s.B id=false∧wB s id=false:=fun id hid=>by grind
 have k5:∀id,wB s id=true→mem r.B id=false:=fun id hid=>by grind
 refine⟨zqt h1,zqt h3,h2,fun id hid=>?_,fun id hid=>?_,fun id hid=>(k4 id hid).2⟩
 ·cases hw : wB r id with
  |false =>rfl
  |true =>have:=(k4 id hw).1;rw[mem_iff.2 hid] at this;cases this
 cases hw:wB s id with
 |false =>rfl
 |true =>have:=k5 id hw;rw[mem_iff.2 hid] at this;cases this

theorem z07{l:Array Bool}{i:Nat}(h:l.getD i true=false):l.getD i false=false∧i<l.size:=vdi

variable {w0:World} {X0:Fr} {σ:FS} {rs:List Rec} {M:List Nat}

theorem z3j(hlen : rs.length = ops.length)(hM : okM M ops 0 = true)(hp : zn7 M rs 0 = true)
    (hrec : ∀ (k : Nat) r, rs[k]? = some r → ops[k]? = some r.o ∧ okDst N r.o.dst = true ∧ All r.D.vcs ∧ (∀ id ∈ r.D.new, memU u0 id = false) ∧
      delta P ops (fR r.A (XF (fun m=>decide (m<k)) rs 0 σ).slot) (fR r.B (XF (fun m=>decide (m<k)) rs 0 σ).blk) r.o r.h=some r.D)
    (hu:∀id,σ.used id=true→memU u0 id=true) {Q:Exit→Act→World→Prop}
    (hq : ∀ a w E, Sat N w0 X0 (XF (fun _ => true) rs 0 σ) E a w → Q .normal a w) : ∀ (fuel : Nat) (listed : Array Bool) (a : Act) (w : World) (E : Env), listed.size = ops.length →
      (List.range ops.length).countP (fun k=>!upto listed k)≤fuel →
      (∀i j,upto listed j=true→Nat.testBit (M.getD j 0) i=true→upto listed i=true) →
      Sat N w0 X0 (XF (upto listed) rs 0 σ) E a w→wpAny P .any ops.toArray Q fuel listed a w:=by
  have hget:∀{k:Nat},k<ops.length→∃r,rs[k]?=some r:=fun {k} hk=>⟨rs[k]' vdh,ol vdh⟩
  have hAp : ∀(i j : Nat) (r s : Rec), rs[i]? = some r → rs[j]? = some s → i ≠ j → Nat.testBit (M.getD j 0) i = true ∨ Nat.testBit (M.getD i 0) j = true ∨ Ap r s := by
    intro i j r s hr hs hij
    have wr:=zlv (hrec i r hr).2.2.2.2
    have ws:=zlv (hrec j s hs).2.2.2.2
    rcases Nat.lt_or_gt_of_ne hij with hlt | hlt
    · have:=(zei hp i j r s hr hs hlt).1
      simp only[Nat.zero_add] at this
      rcases this with h | h
      · grind
      · exact .inr (.inr (zib h wr ws))
    · have:=(zei hp j i s r hs hr hlt).1
      simp only[Nat.zero_add] at this
      rcases this with h | h
      · grind
      · exact .inr (.inr (zib h ws wr).symm)
  have hNews : ∀(i j : Nat) (r s : Rec), rs[i]? = some r → rs[j]? = some s → i ≠ j → ∀id ∈ r.D.new, id ∉ s.D.new := by
    intro i j r s hr hs hij id h1 h2
    rcases Nat.lt_or_gt_of_ne hij with hlt | hlt
    · have:=o4.1 (zei hp i j r s hr hs hlt).2 id h1
      rw[mem_iff.2 h2] at this;cases this
    · have:=o4.1 (zei hp j i s r hs hr hlt).2 id h2
      rw[mem_iff.2 h1] at this;cases this
  have hdone : ∀listed : Array Bool, listed.size = ops.length → Region.ready .any ops.toArray listed = [] → ∀k, k < ops.length → upto listed k = true := by
    intro listed hsz hr k
    induction k using Nat.strongRecOn with
    |_ k ih =>
      intro hk
      cases hl:upto listed k with
      |true=>rfl
      |false =>
        have hmem : k ∈ Region.ready .any ops.toArray listed := by
          rw[mem_ready]
          have hk':k<listed.size:=vdh
          refine⟨by simp[upto,hk'] at hl ⊢;exact hl,ops[k]'hk,by simp[hk],fun e he hb=>?_⟩
          have:=(zvh hM k (ops[k]'hk) (ol hk)).2 e he hb
          exact ih e.on vdh vdh
        grind
  have hfin : ∀(listed : Array Bool) (a : Act) (w : World) (E : Env), listed.size = ops.length → Region.ready .any ops.toArray listed = [] → Sat N w0 X0 (XF (upto listed) rs 0 σ) E a w → Q .normal a w := by
    intro listed a w E hsz hr hs
    refine hq a w E ?_
    have : ∀(l : List Rec) (i : Nat) (σ : FS), (∀k, k < l.length → upto listed (i + k) = true) → XF (upto listed) l i σ = XF (fun _ => true) l i σ := by
      intro l
      induction l with
      |nil=>intro i σ _;rfl
      |cons x l ih =>
        intro i σ h
        have h0:=h 0 vdj
        simp only[Nat.add_zero] at h0
        simp only[XF,h0]
        exact ih _ _ fun k hk=>by rw[show i+1+k=i+(k+1) by omega];exact h (k+1) (by simpa using hk)
    rw[←this rs 0 σ fun k hk=>by rw[Nat.zero_add];exact hdone listed hsz hr k vdh]
    exact hs
  intro fuel
  induction fuel with
  |zero =>
    intro listed a w E hsz hc hcl hs
    have hall : ∀k, k < ops.length → upto listed k = true := fun k hk => by
      have:=List.countP_eq_zero.1 (Nat.le_zero.1 hc) k (oX.2 hk)
      simpa using this
    have hr : Region.ready .any ops.toArray listed = [] := by
      cases h:Region.ready .any ops.toArray listed with
      |nil=>rfl
      |cons x l =>
        have hx:x∈Region.ready .any ops.toArray listed:=by rw[h];simp
        obtain⟨h1,o,h2,_⟩:=mem_ready.1 hx
        obtain⟨h3,h4⟩:=z07 h1
        have:=hall x vdh
        simp only[upto] at this
        rw[h3] at this;cases this
    exact⟨hr,hfin listed a w E hsz hr hs⟩
  |succ fuel ih =>
    intro listed a w E hsz hc hcl hs
    refine⟨fun hr=>hfin listed a w E hsz hr hs,fun i hi=>?_⟩
    obtain⟨hi1,o,hi2,hi3⟩:=mem_ready.1 hi
    obtain⟨hun,hlt⟩:=z07 hi1
    have hlt':i<ops.length:=vdh
    obtain⟨r,hr⟩:=hget hlt'
    obtain⟨r1,r2,r3,r4,r5⟩:=hrec i r hr
    have ho : o = r.o := by
      have:ops[i]?=some o:=by simpa using hi2
      rw[r1] at this;cases this;rfl
    subst ho
    -- what must come before it has come
    have hpre : ∀k, Nat.testBit (M.getD i 0) k = true → upto listed k = true := by
      intro k hk
      have h0:=(zvh hM i r.o r1).1
      simp only[Nat.zero_add] at h0
      rw[h0] at hk
      rcases zxw hk with h1 | ⟨e,h1,h2,h3⟩
      · simp at h1
      · have he:=hi3 e vcY h2
        rcases h3 with h3 | h3
        · rw [← h3];exact he
        · exact hcl k e.on he h3
    -- those that differ from the order of the text are apart from it
    have hdiff : ∀k s, rs[k]? = some s → upto listed k ≠ decide (k < i) → Ap r s := by
      intro k s hks hne
      have hki : k ≠ i := by
        intro e
        subst e
        have:upto listed k=false:=hun
        rw[this] at hne
        simp at hne
      rcases hAp i k r s hr hks (Ne.symm hki) with h1 | h1 | h1
      · -- i before k
        have : upto listed k = true → False := fun hl => by
          have:=hcl i k hl h1
          simp only[upto] at this
          rw[hun] at this;cases this
        have hk1 : upto listed k = false := by
          cases hl:upto listed k with
          |false=>rfl
          |true=>exact(this hl).elim
        rw[hk1] at hne
        have hki' : k < i := by
          rcases o0 k i with h | h
          · exact h
          · exact absurd (oJ vdh).symm hne
        -- k is before i in the text,yet i must come first: edges point back
        rcases(zei hp k i s r hks hr hki').1 with h2 | h2
        · have:=hpre k vc0
          rw[hk1] at this;cases this
        · exact (zib h2 (zlv (hrec k s hks).2.2.2.2) (zlv r5)).symm
      · have hk1:=hpre k h1
        rw[hk1] at hne
        have hki' : i < k := by
          rcases o0 k i with h | h
          · exact absurd (oM h).symm hne
          · omega
        rcases(zei hp i k r s hr hks hki').1 with h2 | h2
        · have:=hcl i k hk1 vc0
          simp only[upto] at this
          rw[hun] at this;cases this
        · exact zib h2 (zlv r5) (zlv (hrec k s hks).2.2.2.2)
      · exact h1
    have hd : delta P ops (XF (upto listed) rs 0 σ).slot (XF (upto listed) rs 0 σ).blk r.o r.h = some r.D := by
      refine zra (fR_le fun t ht x hx=>?_) (fR_le fun id hid x hx=>?_) r5
      · rw [← hx]
        exact z1o t rs 0 σ σ rfl fun k s hks hne=>(hdiff k s hks (by simpa using hne)).d2 t ht
      · rw [← hx]
        exact z4p id rs 0 σ σ rfl fun k s hks hne=>(hdiff k s hks (by simpa using hne)).b2 id hid
    have hnew : ∀id ∈ r.D.new, (XF (upto listed) rs 0 σ).used id = false := by
      intro id hid
      cases hl:(XF (upto listed) rs 0 σ).used id with
      |false=>rfl
      |true =>
        exfalso
        rcases z1n id rs 0 σ hl with h1 | ⟨k,s,h1,h2,h3⟩
        · have:=hu id h1
          rw[r4 id hid] at this;cases this
        · have hki : i ≠ k := by
            intro e
            subst e
            simp only[Nat.zero_add,upto] at h2
            rw[hun] at h2;cases h2
          exact hNews i k r s hr h1 hki id hid h3
    have hset : ∀k, upto (listed.setIfInBounds i true) k = if k = i then true else upto listed k := by
      intro k
      simp only[upto]
      by_cases e:k=i
      · subst e;simp [hlt]
      · rw [if_neg e];exact getD_set_ne false (Ne.symm e)
    have hadd : XF (upto (listed.setIfInBounds i true)) rs 0 σ = (XF (upto listed) rs 0 σ).dl r.o.dst r.D := by
      refine z4q i rs 0 σ i hr vdh hun hset fun k s hks hlt2 hS=>?_
      have:=hdiff k s hks (by rw[Nat.zero_add] at hS;rw[hS];simp;omega)
      exact⟨this.dd,this.bb⟩
    unfold wpOp
    simp only[hi2]
    have hstep := zv4 (P := P) (ops := ops) hs hd r3 hnew r2 (fun a' w' => wpAny P .any ops.toArray Q fuel (listed.setIfInBounds i true) a' w') Q fun a' w' E' hs' => by
      refine ih _ a' w' E' (by simpa using hsz) ?_ (fun p q hq1 hq2=>?_) (by rw[hadd];exact hs')
      · -- one fewer is left
        have hcount : ∀(l : List Nat), l.Nodup → i ∈ l → l.countP (fun k => !upto (listed.setIfInBounds i true) k) + 1 = l.countP (fun k => !upto listed k) := by
          intro l
          induction l with
          |nil=>intro _ h;cases h
          |cons x l ihl =>
            intro hn hm
            rw[List.nodup_cons] at hn
            rcases oS.1 hm with e | hm
            · subst e
              have hrest : l.countP (fun k => !upto (listed.setIfInBounds i true) k) = l.countP (fun k => !upto listed k) := List.countP_congr fun k hk => by
                have hne:k≠i:=fun e=>hn.1 (by rw[←e];exact hk)
                rw[hset k,if_neg hne]
              rw[List.countP_cons,List.countP_cons,hrest,hset i,if_pos rfl]
              have:upto listed i=false:=hun
              simp[this]
            · have hx:x≠i:=fun e=>hn.1 (e ▸ hm)
              have:=ihl hn.2 hm
              rw[List.countP_cons,List.countP_cons,hset x,if_neg hx]
              omega
        have:=hcount (List.range ops.length) List.nodup_range (oX.2 hlt')
        omega
      · rw [hset] at hq1 ⊢
        by_cases e:p=i
        · rw [if_pos e]
        · rw [if_neg e]
          by_cases e2:q=i
          · subst e2;exact hpre p hq2
          · rw [if_neg e2] at hq1;exact hcl p q hq1 hq2
    split
    · rename_i hw
      rw[if_pos hw] at hstep
      exact .inl hstep
    · rename_i hw
      rw[if_neg hw] at hstep
      exact hstep

theorem W.draw{c : Code}{n r : AP}{xs : List (Nat × AP)}{a : Act}{w : World}{s s2 : St}{vcs : List Prop}(hs : H N w0 X0 s a w)(hm : P.follows .mixedOrders = true)(hc : z4j c = true)(hints : List (Nat × Hint)){i : Nat}(he : zv1 P N (opsOf c).toList hints i s = some (s2, vcs))(ha : All vcs)(hn : ∀a w, H N w0 X0 s2 a w → n a w) : W P c n r xs a w := by
 cases c<;>simp[z4j] at hc;rename_i id ops d;subst hc;obtain⟨E,hs⟩:=hs;have hs':Sat N w0 X0 s.fs E a { w with drawn:=w.drawn+1 }:=hs.grow ⟨rfl,rfl,rfl,oz _,fun _ _=>rfl⟩;unfold zv1 at he;split at he
 ·rename_i s1 p rs hgo;obtain ⟨hck, he⟩ := zay he;cases he;simp only [oc] at hck;obtain ⟨q1, q2, q3, q4, q5⟩ := zpd (σ := s.fs) hgo ha (fun _ _ h => h) (fun _ _ h => h) (fun _ h => h) 0;refine wp_region_any hm ?_;have h0 : ∀ k, upto (Array.replicate ops.size false) k = false := fun k => by simp only [upto, Array.getD_eq_getD_getElem?];grind
  have key := z3j (P := P) (N := N) (w0 := w0) (X0 := X0) (σ := s.fs) (u0 := s.used) (Q := PQ n r xs) q1 hck.1 hck.2 (fun k r hr => by
    have:=q2 k r hr
    simp only[Nat.zero_add] at this
    exact this) (fun id h => h) (fun a w E hsat => hn a w ⟨E, hsat.weaken _ q3 q4 q5⟩) ops.size (Array.replicate ops.size false) a { w with drawn := w.drawn + 1 } E (by simp [opsOf]) (by
      refine Nat.le_trans List.countP_le_length ?_
      simp[opsOf]) (fun i j hj=>by rw[h0] at hj;cases hj) ?_
  ·assumption
  have : XF (upto (Array.replicate ops.size false)) rs 0 s.fs = s.fs := by
   have : ∀(l : List Rec) (i : Nat) (σ : FS), XF (upto (Array.replicate ops.size false)) l i σ = σ := by
    intro l;induction l with
    |nil =>intro i σ;rfl
    |cons x l ih =>intro i σ;simp only[XF,h0];exact ih _ _
   grind
  grind
 cases he

end
end Go.Lite
