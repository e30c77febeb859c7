/- Regions of operations that run in the order of the text, executed on lists of claims; each step is sound. Conditions: none; over any program. -/
import Derived.Test.YtnphfelaffdmkaaGreatDoorLiteDS
import Derived.Laws.Sem
import Derived.Orders
import Derived.ProofKit
import Derived.WideKeyArgs
import Derived.Deep.Slices
import Derived.Below
import Derived.ChangeSame
set_option linter.unusedVariables false
namespace Go.Lite
open Go Go.RowKit


structure St where
  slots:List (Nat×LV)
  blks:List (Nat×BC)
  used:List Nat

def mem(l:List Nat)(i:Nat):Bool:=l.any (Nat.beq i)
theorem mem_iff{l:List Nat}{i:Nat}:mem l i=true↔i∈l:=by simp only[mem];simp_all

def memU(l:List Nat)(i:Nat):Bool:=mem l i||Nat.ble 900000 i
def St.fs(s:St):FS:=⟨look s.slots,look s.blks,memU s.used⟩

def H(N:Nat)(w0:World)(X0:Fr)(s:St)(a:Act)(w:World):Prop:=∃E,Sat N w0 X0 s.fs E a w

section
variable {P:Program} {N:Nat} {w0:World} {X0:Fr} {σ:FS} {E:Env} {a:Act} {w:World}

def reV(h : Hint)(r : LV × List Prop) : LV × List Prop :=
  match h,r.1 with
  |.rowN _ n row,.ro fr sz n0 row0=>(.ro fr sz n row,[All r.2∧zbo n0 n row0 row])
  |_,_=>r
theorem zum(h:Hint)(r:LV×List Prop):reV h r=r∨∃i n row fr sz n0 row0,h=.rowN i n row∧r.1=.ro fr sz n0 row0∧reV h r=(.ro fr sz n row,[All r.2∧zbo n0 n row0 row]):=by unfold reV;grind
theorem RepC.rowsV{w : World}{B : Nat}{X : Nat → Prop}{fr : Bool}{sz n n' : Nat}{row row' : Nat → List LV}{v : Value}(h : RepC w B X (.ro fr sz n row) v)(he : zbo n n' row row') : RepC w B X (.ro fr sz n' row') v := by
 obtain⟨rfl,he⟩:=he;cases h with
 |ro _ _ _ _ A ad cap cv hcap hA hlt hX hB hsz ho hc h =>exact .ro fr sz n row' A ad cap cv hcap hA hlt hX hB (fun i hi=>by rw[←he i hi];exact hsz i hi) (fun i hi=>by rw[←he i hi];exact ho i hi) hc fun i j lv hi hl=>h i j lv hi (by rw[he i hi];exact hl)
def vopA(P : Program)(o : Oper)(sl : Nat → Option LV)(blk : Nat → Option BC)(h : Hint) : Option (LV × List Prop) :=
  match vop P o sl blk h with
  |some r=>some r
  | none => match vop2 P o sl blk with
    |some r=>some (reV h r)
    |none=>none
theorem zfx(hs : Sat N w0 X0 σ E a w){o : Oper}{h : Hint}{lv : LV}{p : List Prop}(hv : vopA P o σ.slot σ.blk h = some (lv, p))(ha : All p) : VOk P w0 X0 σ E a w o lv := by
 unfold vopA at hv;split at hv
 ·rename_i r hr; cases hv; exact zt0 hs hr ha
 split at hv
 ·rename_i r hr;obtain ⟨lv0, p0⟩ := r;rcases zum h (lv0, p0) with e | ⟨i, n, row, fr, sz, n0, row0, _, e, e2⟩
  ·rw [e] at hv; cases hv; exact zlh hs hr ha
  rw[e2] at hv;cases hv;subst e;obtain⟨v,h1,h2,h3⟩:=zlh hs hr ha.1.1;refine⟨v,h1,?_,fun id hm=>vbS⟩;cases h2 with
  |c _ _ h2 =>exact .c _ _ (h2.rowsV ha.1.2)
 cases hv

def St.put(s : St)(d : Option Nat)(lv : LV) : St :=
  match d with
  |some d=>{ s with slots:=(d,lv) :: s.slots }
  |none=>s
def okDst(N : Nat) : Option Nat → Bool
  |some d=>Nat.blt d N
  |none=>true
def zev(ops : List Oper)(sl : Nat → Option LV)(j : Nat)(want : Bool) : Option Bool :=
  match ops[j]? with
  | some o => match o.dst with
    | some t => match sl t with
      |some (.bool b)=>some (bif want then b else !b)
      |some (.whn c (.bool b))=>some (c&&(bif want then b else !b))
      |_=>none
    |none=>none
  |none=>none

def zmw(s : St)(D : MD) : List (Nat × BC) :=
  (D.new ++ s.blks.map (·.1)).filterMap fun i => ((s.fs.upd D.K D.ub).blk i).map fun c => (i, c)

def op1(P : Program)(N : Nat)(ops : List Oper)(s : St)(o : Oper)(h : Hint) : Option (St × List Prop) :=
  match o.guard with
  | none => match vopA P o (look s.slots) (look s.blks) h with
    |some (lv,p)=>bif okDst N o.dst then some (s.put o.dst lv,p) else none
    | none => match mop P o (look s.slots) (look s.blks) h with
      | some D => bif D.new.all (fun i => !memU s.used i) then
          match o.dst,D.dst with
          |some d,some lv=>bif Nat.blt d N then some (⟨(d,lv) :: s.slots,zmw s D,D.new++s.used⟩,D.vcs) else none
          |none,_=>some (⟨s.slots,zmw s D,D.new++s.used⟩,D.vcs)
          |_,_=>none
        else none
      |none=>none
  | some (j, want) => match zev ops (look s.slots) j want with
    | some g => match vopA P o (look s.slots) (look s.blks) h with
      |some (lv,p)=>bif okDst N o.dst then some (s.put o.dst (.whn g lv),p.map fun t=>g=true→t) else none
      | none => match mop P o (look s.slots) (look s.blks) h with
        | some D => match o.dst, D.dst with
          | some d, some lv => bif Nat.blt d N && D.new.all (fun i => !memU s.used i) && s.blks.all (fun x => !D.K x.1 && (D.ub x.1).isNone) then
              match frz (s.fs.upd D.K D.ub).blk lv with
              |some (x,is)=>bif is.all (fun i=>mem D.new i) then some (⟨(d,.whn g x) :: s.slots,s.blks,D.new++s.used⟩,D.vcs.map fun t=>g=true→t) else none
              |none=>none
            else none
          |_,_=>none
        |none=>none
    |none=>none

theorem zmn{d j:Nat}{l:List BC}(h:resB d l j≠none):j∈(List.range l.length).map (resId d):=by obtain⟨c,hc⟩:=oN.1 h;obtain⟨k,rfl,hk⟩:=zhb hc;grind
theorem zd3{i j : Nat}{c : BC}(h : oneB i c j ≠ none) : j = i := by
 unfold oneB at h;by_cases e:j=i
 ·exact e
 simp[e] at h

theorem zcl{c : Bool}{α : Type}{x : Option α}{y : α}(h : (bif c then x else none) = some y) : c = true ∧ x = some y := by
 cases c with
 |true =>exact⟨rfl,h⟩
 |false =>cases h
theorem zmc{m n:Nat}(h:Nat.blt m n=true):m<n:=by have:=oS h;omega

theorem zrt{blk:Nat→Option BC}{v x:LV}{is:List Nat}(h:frz blk v=some (x,is)):∀k∈is,∃sz n row,blk k=some (.arr sz n row):=by unfold frz at h;grind

theorem zoz{blk : Nat → Option BC}{g : Nat}{xs : List LV}{p : List Prop}{dst : Bool}{d : Nat}{ids : List Nat}{rbl : List (Nat × BC)}{r : LV}{D : MD}(h : callM P blk g xs p dst d ids rbl r = some D) : (∀i, D.ub i ≠ none → i ∈ D.new ∨ blk i ≠ none) ∧ ∀i, D.K i = true → blk i ≠ none := by
 unfold callM at h;split at h
 ·rename_i bl fn hbl hfn;obtain ⟨hc, rfl⟩ := zaj h;simp only [oc] at hc;obtain ⟨_, _, _, hkeys⟩ := hc;obtain ⟨_, b2⟩ := zmq hbl;have hl : ∀ i ∈ ids, blk i ≠ none := fun i hi => by obtain ⟨c, h1, _⟩ := b2 _ _ (zhq hi);grind
  refine⟨fun i hi=>?_,fun i hi=>hl i (killL_mem.1 hi)⟩;obtain⟨c,hc⟩:=oN.1 hi;obtain⟨i0,c0,h1,h2,_⟩:=zgx (outM ids d) (fun x=>renB (outM ids d) x.2) hc;have hm:=zbl h2;cases h9:Nat.ble 900000 i0 with
  |true =>right;have h3:=zmc (o0.1 hkeys _ hm);have h4:=oS h9;have h5:outM ids d i0=ids[i0 - 900000]' vbX:=(by unfold outM;rw[h9];simp only[oC,oh,oj (show i0 - 900000<ids.length by omega),Option.getD_some]);rw[←h1,h5];exact hl _ (List.getElem_mem _)
  |false =>
   left;have h4 : i0 < 900000 := by
    rcases oY i0 900000 with h | h
    ·exact h
    rw[oZ h] at h9;cases h9
   have h5:outM ids d i0=resId d i0:=(by unfold outM;rw[h9];rfl);rw[←h1,h5];simp only[newM,List.mem_map,List.mem_filter];exact⟨(i0,c0),⟨hm,oZ h4⟩,rfl⟩
 cases h

theorem zre{o:Oper}{sl:Nat→Option LV}{blk:Nat→Option BC}{h:Hint}{D:MD}(hm:mop0 P o sl blk h=some D):∀i,D.ub i≠none→i∈D.new∨blk i≠none:=by unfold mop0 at hm;intro i hi;(repeat' split at hm);all_goals first|(cases hm;done)|exact(zoz hm).1 i hi|(obtain⟨_,hm⟩:=zaj hm;subst hm;exact absurd rfl hi)|(simp only[oq] at hm;obtain⟨cs,hcs,rfl⟩:=hm;left;have e:=zd3 hi;subst e;exact oR.2 rfl)|(obtain⟨_,hm⟩:=zaj hm;subst hm;left;have e:=zd3 hi;subst e;exact oR.2 rfl)|(obtain⟨_,hm⟩:=zaj hm;subst hm;right;have e:=zd3 hi;subst e;intro h0;simp_all;done)|(obtain⟨_,hm⟩:=zaj hm;subst hm;left;exact zmn hi)|(obtain⟨_,hm⟩:=zcl hm;obtain⟨_,hm⟩:=zaj hm;subst hm;left;have e:=zd3 hi;subst e;exact oR.2 rfl)|(obtain⟨_,hm⟩:=zaj hm;cases hm;left;have e:=zd3 hi;subst e;exact oR.2 rfl)

theorem zzc{blk:Nat→Option BC}{cs:List LV}{sz:Nat}{rs:List NR}{ids:List Nat}(h:nrsOf blk cs=some (sz,rs,ids)):sz=szOfs blk cs∧nrsGo blk sz cs=some (rs,ids):=by obtain⟨x,h1,h2⟩:=oq.1 h;grind
theorem zlu{blk : Nat → Option BC}{sz : Nat} : ∀{cs : List LV} {rs : List NR} {ids : List Nat}, nrsGo blk sz cs = some (rs, ids) → ∀f ∈ ids, blk f ≠ none
  |[],rs,ids,h=>by cases h;exact fun f hf=>by cases hf
  |v :: r, rs, ids, h => by
    simp only[nrsGo] at h
    split at h
    · rename_i s x is xs js h1 h2
      obtain⟨_,h⟩:=zaj h
      cases h
      intro f hf
      rcases List.mem_append.1 hf with hf | hf
      · rcases zid h1 with ⟨f',_,_,_,_,e2,_,e4,_⟩ | ⟨_,_,e3⟩
        · grind
        · grind
      · exact zlu h2 f hf
    · cases h
theorem ztc{blk:Nat→Option BC}{cs:List LV}{sz:Nat}{rs:List NR}{ids:List Nat}(h:nrsOf blk cs=some (sz,rs,ids)):∀f∈ids,blk f≠none:=zlu (zzc h).2
theorem zrd{o : Oper}{sl : Nat → Option LV}{blk : Nat → Option BC}{h : Hint}{D : MD}(hm : mopN P o sl blk h = some D) : (∀i, D.ub i ≠ none → i ∈ D.new ∨ blk i ≠ none) ∧ ∀i, D.K i = true → blk i ≠ none := by
 have two : ∀{d id : Nat} {c c' : BC} {i : Nat}, (bif Nat.beq i d then some c else oneB id c' i) ≠ none → i = d ∨ i = id := fun {d id c c' i} h => by
  cases hb:Nat.beq i d with
  |true =>exact .inl (om hb)
  |false =>rw[hb] at h;exact .inr (zd3 h)
 have kill:∀{l:List Nat} {i:Nat},(∀k∈l,blk k≠none)→killL l i=true→blk i≠none:=fun hl hk=>hl _ (killL_mem.1 hk);unfold mopN at hm;repeat' split at hm
 all_goals first|(cases hm;done)|skip
 all_goals (obtain⟨_,hm⟩:=zaj hm;subst hm;refine⟨fun i hi=>?_,fun i hi=>?_⟩)
 all_goals first
   |(left;have e:=zd3 hi;subst e;exact oR.2 rfl)
   |(right;have e:=zd3 hi;subst e;intro h0;simp_all;done)
   |(cases hi;done)
   | (rcases two hi with e | e
      · subst e;exact .inl (oR.2 rfl)
      · subst e;right;intro h0;simp_all;done)
   |(exact kill (ztc (by assumption)) hi)
   |(refine kill (fun k hk=>?_) hi;simp only[oQ,List.not_mem_nil,or_false] at hk;first|(subst hk;simp_all;done)|(rcases hk with rfl|rfl<;>simp_all))
theorem zu4{o : Oper}{sl : Nat → Option LV}{blk : Nat → Option BC}{h : Hint}{D : MD}(hm : mop P o sl blk h = some D) : ∀i, D.ub i ≠ none → i ∈ D.new ∨ blk i ≠ none := by
 rcases zfk hm with hm | ⟨wk,id,n,row,D0,hi0,e,h0,h1⟩ | hm
 ·exact zre hm
 rotate_left
 ·exact (zrd hm).1
 obtain⟨_,_,_,_,rfl⟩:=zi6 h1;intro i hi;exact zre h0 i (z0d (by assumption) hi)
theorem zcj{α : Type}(f : Nat → Option α) : ∀(l : List Nat) (j : Nat) (c : α), look (l.filterMap fun i => (f i).map fun c => (i, c)) j = some c → f j = some c
  |[],j,c,h=>by simp[look] at h
  |i :: l, j, c, h => by
    cases hf:f i with
    |none=>simp only[List.filterMap_cons,hf] at h;exact zcj f l j c h
    |some x =>
      simp only[List.filterMap_cons,hf,Option.map_some,za2] at h
      by_cases e:j=i
      · grind
      · simp only [e] at h;exact zcj f l j c h

theorem mem_append{l r:List Nat}{i:Nat}:mem (l++r) i=(mem l i||mem r i):=by simp[mem]
theorem zgv{l r:List Nat}{i:Nat}:memU (l++r) i=(mem l i||memU r i):=by simp[memU,mem_append,Bool.or_assoc]
theorem zie(s:St)(D:MD):∀i c,look (zmw s D) i=some c→(s.fs.upd D.K D.ub).blk i=some c:=fun i c h=>zcj _ _ i c h

theorem zo9{s : St}{o : Oper}{h : Hint}{D : MD}(hm : mop P o (look s.slots) (look s.blks) h = some D)(hs : Sat N w0 X0 s.fs E a w) : ∀i, (s.fs.upd D.K D.ub).used i = true → memU (D.new ++ s.used) i = true := by
 intro i hi;simp only[FS.upd,oi,Option.isSome_iff_ne_none] at hi;rw[zgv,oi];rcases hi with hi | hi
 ·rcases zu4 hm i hi with h1 | h1
  ·exact .inl (mem_iff.2 h1)
  exact .inr (hs.live i h1)
 exact .inr hi

theorem ze3{ops : List Oper}{s : St}{o : Oper}{j : Nat}{want g : Bool}(hg : o.guard = some (j, want))(h : zev ops (look s.slots) j want = some g)(hs : Sat N w0 X0 s.fs E a w) : Region.wanted o (yielded ops.toArray a.tmps) = g := by
 unfold zev at h;split at h
 ·rename_i o' ho;split at h
  ·rename_i t ht;have hget : ∀ v, a.tmps.getD t undef = v → v ≠ undef → a.tmps[t]? = some v := (by intro v hv hne;rw [Array.getD_eq_getD_getElem?] at hv;grind);have hyt : ∀ b, a.tmps.getD t undef = .bool b → yielded ops.toArray a.tmps j = some b := vaQ;have hyf : a.tmps.getD t undef = undef → yielded ops.toArray a.tmps j = none := by
    intro hb;rw[Array.getD_eq_getD_getElem?] at hb;cases h1:a.tmps[t]? with
    |none =>simp[yielded,ho,ht,h1]
    |some u =>rw[h1] at hb;simp at hb;simp[yielded,ho,ht,h1,hb,undef]
   split at h
   ·rename_i b hb;cases h;have := (hs.slots t _ hb).bool_inv;rw [Region.wanted, hg];grind
   ·rename_i c b hb;cases h;have hr := hs.slots t _ hb;rw [Region.wanted, hg];cases c with
    |true =>
     have hb' : a.tmps.getD t undef = .bool b := by
      cases hr with
      |c _ _ h =>cases h
      |whn _ _ _ h1 _ =>exact(h1 rfl).bool_inv
     grind
    |false =>
     have hb' : a.tmps.getD t undef = undef := by
      cases hr with
      |c _ _ h =>cases h
      |whn _ _ _ _ h2 =>exact h2 rfl
     grind
   cases h
  cases h
 cases h

theorem St.put_fs(s:St)(d:Nat)(lv:LV):(s.put (some d) lv).fs=s.fs.put d lv:=by simp only[St.fs,St.put,FS.put,za2]

theorem zes{d:Nat}(h:okDst N (some d)=true):d<N:=zmc h

theorem zn5{ops : List Oper}{s s' : St}{o : Oper}{h : Hint}{vcs : List Prop}(ho : op1 P N ops s o h = some (s', vcs))(ha : All vcs)(hs : H N w0 X0 s a w)(K : Act → World → Prop)(Q : Exit → Act → World → Prop)(hk : ∀a' w', H N w0 X0 s' a' w' → K a' w') : if Region.wanted o (yielded ops.toArray a.tmps) then o.wp P a w K Q else K (a.put o.dst undef) w := by
 obtain⟨E,hs⟩:=hs;unfold op1 at ho;split at ho
 ·rename_i hg;have hw : Region.wanted o (yielded ops.toArray a.tmps) = true := by rw [Region.wanted, hg]
  rw[if_pos hw];split at ho
  ·rename_i lv p hv;obtain ⟨hd, ho⟩ := zaj ho;cases ho;obtain ⟨v, h1, h2, h3⟩ := zfx hs hv ha;refine zbe h1 (hk _ _ ⟨E, ?_⟩);cases hdst : o.dst with
   |none =>exact hs
   |some d =>rw[hdst] at hd;rw[St.put_fs];exact hs.put (zes hd) h2 h3
  split at ho
  ·rename_i D hm;obtain ⟨hnew, ho⟩ := zcl ho;have hnew' : ∀ i ∈ D.new, s.fs.used i = false := fun i hi => (by have := o0.1 hnew i hi;simpa [St.fs] using this);split at ho
   ·rename_i d lv hd hlv;obtain ⟨hlt, ho⟩ := zaj ho;cases ho;refine zfi hs hm ha hnew' _ _ fun v w' E' g1 _ g3 => ?_;obtain ⟨k1, k2⟩ := g3 lv hlv;refine hk _ _ ⟨E', ?_⟩;rw [hd];refine (g1.put (zmc hlt) k1 k2).weaken _ (fun t x hx => ?_) (zie s D) (zo9 hm hs);simp only [St.fs, za2] at hx;exact hx
   ·rename_i hd;cases ho;refine zfi hs hm ha hnew' _ _ fun v w' E' g1 _ g3 => ?_;refine hk _ _ ⟨E', ?_⟩;rw [hd];exact g1.weaken _ (fun t x hx => hx) (zie s D) (zo9 hm hs)
   cases ho
  cases ho
 rename_i j want hg;split at ho
 ·rename_i g hgb;have hw := ze3 hg hgb hs;rw [hw];split at ho
  ·rename_i lv p hv;obtain ⟨hd, ho⟩ := zaj ho;cases ho;cases g with
   |true =>
    obtain⟨v,h1,h2,h3⟩:=zfx hs hv (All.map_imp ha rfl);refine zbe h1 (hk _ _ ⟨E,?_⟩);cases hdst:o.dst with
    |none =>exact hs
    |some d =>rw[hdst] at hd;rw[St.put_fs];exact hs.put (zes hd) (.whn true lv v (fun _=>h2) fun h=>vbU) fun id hm=>by cases hm with|whn _ _ _ _ hm=>exact h3 id hm
   |false =>
    refine hk _ _ ⟨E,?_⟩;cases hdst:o.dst with
    |none =>exact hs
    |some d =>rw[hdst] at hd;rw[St.put_fs];exact hs.put (zes hd) (.whn false lv undef (fun h=>vbU) fun _=>rfl) fun id hm=>by cases hm with|whn _ _ _ hb _=>cases hb
  split at ho
  ·rename_i D hm;split at ho
   ·rename_i d lv hd hlv;obtain ⟨hc, ho⟩ := zcl ho;simp only [oc] at hc;obtain ⟨⟨hlt, hnew⟩, hkeep⟩ := hc;have hnew' : ∀ i ∈ D.new, s.fs.used i = false := fun i hi => (by have := o0.1 hnew i hi;simpa [St.fs] using this);split at ho
    ·rename_i x is hfz;obtain ⟨his, ho⟩ := zaj ho;cases ho;have hbk : ∀ i c, look s.blks i = some c → (s.fs.upd D.K D.ub).blk i = some c := by
      intro i c hi;have hmem : ∃y ∈ s.blks, y.1 = i := by
       revert hi;generalize s.blks=l;intro hi;induction l with
       |nil =>simp[look] at hi
       |cons y l ih =>
        by_cases e:y.1=i
        ·grind
        obtain⟨z,hz,e'⟩:=ih (by rw[show(y :: l)=(y.1,y.2) :: l from rfl,za2] at hi;simpa[Ne.symm e] using hi);grind
      obtain⟨y,hy,e⟩:=hmem;have:=o0.1 hkeep y hy;rw[e] at this;simp only[oc,od,Option.isNone_iff_eq_none] at this;simp only[FS.upd,this.2,this.1];exact hi
     cases g with
     |true =>
      simp only[if_true];refine zfi hs hm (All.map_imp ha rfl) hnew' _ _ fun v w' E' g1 _ g3 => ?_;obtain⟨k1, k2⟩ := g3 lv hlv;refine hk _ _ ⟨E', ?_⟩;rw[hd];have hsub : ∀b, Own s.fs E' X0 b → Own (s.fs.upd D.K D.ub) E' X0 b := Own.sub hbk;have hx : RepC w' w0.heap.size (Own s.fs E' X0) x v := by
       refine zm5 g1 hsub hfz (fun k hk b hb hown=>?_) k1;have hkn:=mem_iff.1 (o0.1 his k hk);obtain⟨sz,n,row,hkl⟩:=zrt hfz k hk;rcases hown with h0 | ⟨i,hi⟩
       ·exact g1.xne h0 (by rw [hkl]; simp) hb
       have:=g1.injA i k b (hi.sub hbk) (.inl ⟨by rw[hkl];simp,hb⟩);subst this;have h4:=hnew' i hkn;rw[hs.live i hi.ne] at h4;cases h4
      have hq:=(g1.weaken (σ':=⟨look s.slots,look s.blks,memU (D.new++s.used)⟩) (fun t y hy=>hy) hbk (zo9 hm hs));have:=hq.put (zmc hlt) (lv:=.whn true x) (v:=v) (.whn true x v (fun _=>.c _ _ hx) fun h=>vbU) fun id hmm=>(by cases hmm with | whn _ _ _ _ hmm=>exact absurd hmm (hx.noMent id));refine this.weaken _ (fun t y hy=>?_) (fun i c hi=>hi) (fun i hi=>hi);simp only[St.fs,za2] at hy;exact hy
     |false =>
      simp only[oT,if_false];refine hk _ _ ⟨E,?_⟩;rw[hd];have:=hs.put (zmc hlt) (lv:=.whn false x) (v:=undef) (.whn false x undef (fun h=>vbU) fun _=>rfl) fun id hm=>(by cases hm with | whn _ _ _ hb _=>cases hb);refine this.weaken _ (fun t y hy=>?_) (fun i c hi=>hi) (fun i hi=>?_)
      ·simp only [St.fs, za2] at hy;exact hy
      show memU (D.new++s.used) i=true;rw[zgv,oi];exact .inr hi
    cases ho
   cases ho
  cases ho
 cases ho

def op1G(P : Program)(N : Nat)(ops : List Oper)(s : St)(o : Oper)(h : Hint) : Option (St × List Prop) :=
  match o.guard,h with
  | some (j, want), .gT h' => match zev ops (look s.slots) j want, op1 P N ops s { o with guard := none } h' with
    |some g,some (s',vcs)=>some (s',(g=true) :: vcs)
    |_,_=>none
  | some (j, want), .gF => match zev ops (look s.slots) j want with
    |some g=>bif okDst N o.dst then some (s.put o.dst (.whn false (.bool true)),[g=false]) else none
    |none=>none
  |_,_=>op1 P N ops s o h
theorem zta{ops : List Oper}{s s' : St}{o : Oper}{h : Hint}{vcs : List Prop}(ho : op1G P N ops s o h = some (s', vcs))(ha : All vcs)(hs : H N w0 X0 s a w)(K : Act → World → Prop)(Q : Exit → Act → World → Prop)(hk : ∀a' w', H N w0 X0 s' a' w' → K a' w') : if Region.wanted o (yielded ops.toArray a.tmps) then o.wp P a w K Q else K (a.put o.dst undef) w := by
 unfold op1G at ho;split at ho
 ·rename_i j want h' hg;split at ho
  ·rename_i g s1 v1 h1 h2;cases ho;obtain ⟨ha1, ha2⟩ := ha;obtain ⟨E, hs'⟩ := id hs;have hw := ze3 hg h1 hs';rw [hw, ha1];have := zn5 h2 ha2 hs K Q hk;assumption
  cases ho
 ·rename_i j want hg;split at ho
  ·rename_i g h1;obtain ⟨hd, ho⟩ := zaj ho;cases ho;obtain ⟨ha1, _⟩ := ha;obtain ⟨E, hs⟩ := hs;have hw := ze3 hg h1 hs;rw [hw, ha1];refine hk _ _ ⟨E, ?_⟩;cases hdst : o.dst with
   |none =>exact hs
   |some d =>rw[hdst] at hd;rw[St.put_fs];exact hs.put (zes hd) (.whn false (.bool true) undef (fun h=>vbU) fun _=>rfl) fun id hm=>by cases hm with|whn _ _ _ hb _=>cases hb
  cases ho
 exact zn5 ho ha hs K Q hk

def zn0(P : Program)(N : Nat)(ops : List Oper)(hints : List (Nat × Hint)) : List Oper → Nat → St → Option (St × List Prop)
  |[],_,s=>some (s,[])
  | o :: r, i, s => match op1G P N ops s o ((look hints i).getD .no) with
    | some (s1, p) => match zn0 P N ops hints r (i + 1) s1 with
      |some (s2,q)=>some (s2,p++q)
      |none=>none
    |none=>none

theorem zip{ops : List Oper}{hints : List (Nat × Hint)}{Q : Exit → Act → World → Prop} : ∀{l : List Oper} {i : Nat} {s s' : St} {vcs : List Prop} {a : Act} {w : World}, zn0 P N ops hints l i s = some (s', vcs) → All vcs →
    H N w0 X0 s a w→(∀a' w',H N w0 X0 s' a' w'→Q .normal a' w')→wpList P ops.toArray Q l a w
  |[],i,s,s',vcs,a,w,hr,ha,hs,hq=>by cases hr;exact hq a w hs
  |o :: l, i, s, s', vcs, a, w, hr, ha, hs, hq => by
    simp only[zn0] at hr
    split at hr
    · rename_i s1 p h1
      split at hr
      · rename_i s2 q h2
        cases hr
        obtain⟨hp,hq'⟩:=All.append.1 ha
        exact wpList_step fun K hK=>zta h1 hp hs K Q fun a' w' hs'=>hK a' w' (zip h2 hq' hs' hq)
      · cases hr
    · cases hr

end
end Go.Lite
namespace Go.Lite
open Go Go.RowKit
open _root_.Nat renaming beq→yv
open Go.World renaming cell?→Yj

abbrev AP:=Act→World→Prop
def PQ(n r : AP)(xs : List (Nat × AP)) : Exit → Act → World → Prop
  |.normal,a,w=>n a w
  |.ret,a,w=>r a w
  | .exit id, a, w => match look xs id with
    |some p=>p a w
    |none=>False
  |_,_,_=>False
def W(P:Program)(c:Code)(n r:AP)(xs:List (Nat×AP))(a:Act)(w:World):Prop:=c.wp P (PQ n r xs) a w

def zb9(fn : Func) : Code := match fn.body with
  |some c=>c
  |none=>.skip
def c1 : Code → Code
  |.seq x _=>x
  |.cond _ x _=>x
  |.block _ x=>x
  |.loop x=>x
  |.scope x=>x
  |_=>.skip
def c2 : Code → Code
  |.seq _ y=>y
  |.cond _ _ y=>y
  |_=>.skip
def cOp : Code → Operand
  |.cond c _ _=>c
  |_=>.const (.bool true)
def opsOf : Code → Array Oper
  |.region _ ops _=>ops
  |_=>#[]
def isSeq : Code → Bool
  |.seq _ _=>true
  |_=>false
def z0t : Code → Bool
  |.cond _ _ _=>true
  |_=>false
def isBlk(id : Nat) : Code → Bool
  |.block i _=>yv i id
  |_=>false
def z0r : Code → Bool
  |.loop _=>true
  |_=>false
def zrn(id : Nat) : Code → Bool
  |.exit i=>yv i id
  |_=>false
def isRet : Code → Bool
  |.ret=>true
  |_=>false
def z0q : Code → Bool
  |.skip=>true
  |.label _=>true
  |_=>false
def isReg : Code → Bool
  |.region _ _ d=>!d
  |_=>false

section
variable {P:Program} {c x y:Code} {n r:AP} {xs:List (Nat×AP)} {a:Act} {w:World}

theorem W.mono{n':AP}(h:W P c n' r xs a w)(hn:∀a w,n' a w→n a w):W P c n r xs a w:=wp_mono h fun e a w q=>by cases e<;>first|exact hn _ _ q|exact q

theorem W.seq(hc:isSeq c=true)(h:W P (c1 c) (fun a w=>W P (c2 c) n r xs a w) r xs a w):W P c n r xs a w:=by cases c<;>simp[isSeq] at hc;exact wp_seq (wp_mono h fun e a w q=>by cases e<;>first|exact q|exact q.elim)

theorem W.seqM(hc:isSeq c=true)(M:AP)(h:W P (c1 c) M r xs a w)(h2:∀a w,M a w→W P (c2 c) n r xs a w):W P c n r xs a w:=W.seq hc (h.mono h2)

theorem W.block(id : Nat)(hc : isBlk id c = true)(h : W P (c1 c) n r ((id, n) :: xs) a w) : W P c n r xs a w := by
 cases c<;>simp[isBlk] at hc;refine wp_block (wp_mono h fun e a w q=>?_);cases e with
 |exit j =>simp only[PQ,za2] at q;simp only[Exit.inBlock,PQ];grind
 |_ =>first|exact q|exact q.elim

theorem W.exit(id:Nat)(hc:zrn id c=true){p:AP}(hx:look xs id=some p)(h:p a w):W P c n r xs a w:=by cases c<;>simp[zrn] at hc;subst hc;exact wp_exit (by simp only[PQ,hx];exact h)

theorem W.ret(hc:isRet c=true)(h:r a w):W P c n r xs a w:=by cases c<;>simp[isRet] at hc;exact wp_ret h

theorem W.skip(hc : z0q c = true)(h : n a w) : W P c n r xs a w := by
 cases c<;>simp[z0q] at hc
 ·exact wp_skip h
 exact wp_label h

variable {N:Nat} {w0:World} {X0:Fr} {s:St}

theorem W.cond(hs:H N w0 X0 s a w)(hc:z0t c=true){b:Bool}{p:List Prop}(he:ev (look s.slots) (cOp c)=some (.bool b,p))(ha:All p)(h1:b=true→W P (c1 c) n r xs a w)(h2:b=false→W P (c2 c) n r xs a w):W P c n r xs a w:=by cases c<;>simp[z0t] at hc;obtain⟨E,hs⟩:=hs;exact wp_cond_split (zae hs he ha).1.bool_inv h1 h2

theorem W.region(hs:H N w0 X0 s a w)(hc:isReg c=true)(hints:List (Nat×Hint)){i:Nat}{s':St}{vcs:List Prop}(he:zn0 P N (opsOf c).toList hints (opsOf c).toList i s=some (s',vcs))(ha:All vcs)(hn:∀a w,H N w0 X0 s' a w→n a w):W P c n r xs a w:=by cases c<;>simp[isReg] at hc;subst hc;refine wp_region_list ?_;have:=zip (Q:=PQ n r xs) he ha hs hn;assumption

theorem W.loop(hc : z0r c = true){G : Type}(I : G → AP)(m : G → Nat)(g0 : G)(h0 : I g0 a w)(hr : ∀g a w, I g a w → W P (c1 c) (fun a w => ∃g', I g' a w ∧ m g' < m g) r xs a w) : W P c n r xs a w := by
 cases c<;>simp[z0r] at hc;classical
 let J : Act → World → Nat → Prop := fun a w k => ∃g, I g a w ∧ m g = k;have hmin : ∀a w, (∃k, J a w k) → ∃k, J a w k ∧ ∀k', J a w k' → k ≤ k' := by
  intro a w ⟨k,hk⟩;induction k using Nat.strongRecOn with
  |_ k ih =>
   by_cases h:∃k',k'<k∧J a w k'
   ·obtain ⟨k', h1, h2⟩ := h; exact ih k' h1 h2
   grind
 let μ:Act→World→Nat:=fun a w=>if h:∃k,J a w k then Classical.choose (hmin a w h) else 0;refine wp_loop (fun a w=>∃k,J a w k) μ ⟨_,g0,h0,rfl⟩ fun a w hI=>?_;obtain⟨⟨g,hg,hgm⟩,hle⟩:=Classical.choose_spec (hmin a w hI);refine wp_mono (hr g a w hg) fun e a' w' q=>?_;cases e with
 |normal =>obtain⟨g',h1,h2⟩:=q;have hI':∃k,J a' w' k:=⟨_,g',h1,rfl⟩;refine⟨hI',?_⟩;have:=(Classical.choose_spec (hmin a' w' hI')).2 _ ⟨g',h1,rfl⟩;grind
 |_ =>first|exact q|exact q.elim
end


def toId(g : List (Nat × Option Nat))(i i' : Nat) : Bool :=
  match look g i' with
  |some (some j)=>yv i j
  |_=>false
theorem zt6{g : List (Nat × Option Nat)}{i i' : Nat}(h : toId g i i' = true) : look g i' = some (some i) := by
 unfold toId at h;split at h
 ·rename_i j hj; rw [hj, om h]
 cases h
def opt(b:Bool)(l:List Prop):Option (List Prop):=bif b then some l else none

def nrT(sz : Nat) : NR → LV
  |.row m r=>.ro true sz m r
  |.cell v=>v
  |_=>.any
mutual
def cmp(g : List (Nat × Option Nat))(fz : Nat → Option BC) : LV → LV → Option (List Prop)
  | .int k a, t => match t with
    |.int k' b=>opt (decide (k=k')) [a=b]
    |_=>none
  | .bool a, t => match t with
    |.bool b=>some [a=b]
    |_=>none
  | .str a, t => match t with
    |.str b=>some [a=b]
    |_=>none
  | .agg l, t => match t with
    |.agg l'=>cmpL g fz l l'
    |_=>none
  | .tup l, t => match t with
    |.tup l'=>cmpL g fz l l'
    |_=>none
  | .ro fr sz n row, t => match t with
    |.ro fr' sz' n' row'=>opt (yv sz sz'&&(!fr'||fr)) [zbo n n' row row']
    |_=>none
  | .ep row off, t => match t with
    |.ep row' off'=>opt (yv off off') [row=row']
    |_=>none
  | .nilS, t => match t with
    |.nilS=>some []
    |.ro _ _ n _=>some [n=0]
    | .own i => match look g i with
      |some none=>some []
      |_=>none
    |_=>none
  | .nilM, t => match t with
    |.nilM=>some []
    |_=>none
  |.rm _ _,_=>none
  | .nilP, t => match t with
    |.nilP=>some []
    |_=>none
  | .fn f, t => match t with
    |.fn f'=>opt (yv f f') []
    |_=>none
  | .clo f l, t => match t with
    | .clo f' l' => match cmpL g fz l l' with
      |some p=>opt (yv f f') p
      |none=>none
    |_=>none
  | .vp i off, t => match t with
    |.vp i' off'=>opt (yv off off'&&toId g i i') []
    |_=>none
  | .own i, t => match t with
    |.own i'=>opt (toId g i i') []
    | .ro _ sz' n' row' => match fz i with
      |some (.arr sz n row)=>opt (yv sz sz') [zbo n n' row row']
      |some (.nest 1 _ sz n rows)=>opt (yv 1 sz') [zbo n n' (fun k=>[nrT sz (rows k)]) row']
      |_=>none
    |_=>none
  | .ap i sz k off, t => match t with
    |.ap i' sz' k' off'=>opt (yv sz sz'&&(yv off off'&&toId g i i')) [k=k']
    |_=>none
  | .mp i, t => match t with
    |.mp i'=>opt (toId g i i') []
    |_=>none
  | .k b o, t => match t with
    |.k b' o'=>opt (yv b b'&&yv o o') []
    |_=>none
  | .er b, t => match t with
    |.er b'=>some [b=b']
    |_=>none
  | .fv, t => match t with
    |.fv=>some []
    |_=>none
  | .any, t => match t with
    |.any=>some []
    |_=>none
  | .ifc i v, t => match t with
    | .ifc i' v' => match cmp g fz v v' with
      |some p=>opt (yv i i') p
      |none=>none
    |_=>none
  | .whn b v, t => match t with
    | .whn b' v' => match cmp g fz v v' with
      |some p=>some ((b=b') :: p.map fun q=>b=true→q)
      |none=>none
    | v' => match cmp g fz v v' with
      |some p=>some ((b=true) :: p)
      |none=>none
def cmpL(g : List (Nat × Option Nat))(fz : Nat → Option BC) : List LV → List LV → Option (List Prop)
  |[],[]=>some []
  | x :: l, y :: l' => match cmp g fz x y, cmpL g fz l l' with
    |some p,some q=>some (p++q)
    |_,_=>none
  |_,_=>none
end
def eiNil:EI:=⟨none,0,none,0,0,0⟩
def putOf(g : List (Nat × Option Nat))(i : Nat) : Option Nat :=
  match look g (500000+i) with
  |some (some d)=>some d
  |_=>none
def envG(g : List (Nat × Option Nat))(E : Env) : Env := ⟨fun i => match look g i with
  |some (some j)=>E j
  |_=>eiNil,fun i b=>∃j,look g i=some (some j)∧(E.s j b∨∃d,putOf g i=some d∧(E d).b=some b)⟩
theorem zfu{g:List (Nat×Option Nat)}{E:Env}{i j:Nat}(h:look g i=some (some j)):envG g E i=E j:=by show(match look g i with | some (some j)=>E j | _=>eiNil)=E j;rw[h]
theorem zik{g:List (Nat×Option Nat)}{E:Env}{i i':Nat}(h:toId g i i'=true):envG g E i'=E i:=zfu (zt6 h)
theorem zm8{g:List (Nat×Option Nat)}{E:Env}{i:Nat}(h:look g i=some none):envG g E i=eiNil:=by show(match look g i with | some (some j)=>E j | _=>eiNil)=eiNil;rw[h]

theorem za5{b : Bool}{l p : List Prop}(h : opt b l = some p) : b = true ∧ l = p := by
 cases b with
 |true =>exact⟨rfl,by simpa[opt] using h⟩
 |false =>simp[opt] at h

section
variable {N:Nat} {w0 w:World} {X0:Fr} {X':Nat→Prop} {σ:FS} {E:Env} {a:Act} {g:List (Nat×Option Nat)} {fz:Nat→Option BC}

theorem RepC.rows{B : Nat}{X : Nat → Prop}{fr fr' : Bool}{sz n n' : Nat}{row row' : Nat → List LV}{v : Value}(h : RepC w B X (.ro fr sz n row) v)(hf : fr' = true → fr = true)(he : zbo n n' row row') : RepC w B X (.ro fr' sz n' row') v := by
 obtain⟨rfl,he⟩:=he;cases h with
 |ro _ _ _ _ A ad cap cv hcap hA hlt hX hB hsz ho hc h =>exact .ro fr' sz n row' A ad cap cv hcap hA hlt hX (fun h0 h1=>hB h0 (hf h1)) (fun i hi=>by rw[←he i hi];exact hsz i hi) (fun i hi=>by rw[←he i hi];exact ho i hi) hc fun i j lv hi hl=>h i j lv hi (by rw[he i hi];exact hl)

theorem RepC.emptyRo{B:Nat}{X:Nat→Prop}{fr:Bool}{sz:Nat}{row:Nat→List LV}:RepC w B X (.ro fr sz 0 row) (.slice none 0 0):=.ro fr sz 0 row none ⟨0,0,none⟩ 0 (fun _ _=>undef) (ou _) (fun h=>absurd h vbX) (fun h=>absurd h vbX) (fun h=>absurd h vbX) (fun h=>absurd h vbX) (fun i hi=>absurd hi vbX) (fun i hi=>absurd hi vbX) (fun i j hi=>absurd hi vbX) fun i j lv hi=>absurd hi vbX

theorem RepC.subX{B:Nat}{X:Nat→Prop}{lv:LV}{v:Value}(h:RepC w B X lv v)(hx:∀b,X' b→X b):RepC w B X' lv v:=h.keep (ou _) (fun _ _ _=>rfl) (fun b hb=>.inl (hx b hb)) (ou _)

theorem RepV.agg_undef{B : Nat}{X : Nat → Prop}{b : Bool}{lv : LV}{v : Value}(h : RepV w B X E (.whn b lv) v) : (b = true → RepV w B X E lv v) ∧ (b = false → v = undef) := by
 cases h with
 |c _ _ h =>cases h
 |whn _ _ _ h1 h2 =>exact⟨h1,h2⟩

theorem zze{B : Nat}{X : Nat → Prop}{i sz n : Nat}{cl : Bool}{rows : Nat → NR}(h : BlkOk w B X E i (.nest 1 cl sz n rows))(hx : ∀b, X' b → X b)(hb : ∀b, (E i).b = some b → ¬X' b)(hs : ∀b, E.s i b → ¬X' b) : RepC w B X' (.ro true 1 n fun k => [nrT sz (rows k)]) (E i).val := by
 obtain⟨ek,hsub,hn,hk⟩:=h;rcases hk with⟨_,k2,k3⟩ | ⟨b,cap,vs,T',k1,k2,k3,k4,k5,k6,k7,k8⟩
 ·subst k3;rw [k2];exact .emptyRo
 rw[k2];refine .ro true 1 n _ (some ⟨b,(E i).off,none⟩) ⟨b,(E i).off,none⟩ cap (fun k _=>vs.getD ((E i).off+k) undef) k5 (fun _=>rfl) (fun _=>(oI.1 k4).1) (fun _=>hb b k1) (fun _ _=>k3) (fun k hk=>rfl) (fun k hk lv hl=>?_) (fun k j hk hj=>?_) fun k j lv hk hl=>?_
 ·obtain rfl := oR.1 hl;have h8 := k8 k hk;cases hr : rows k with
  |cell v =>rw[hr] at h8;exact h8.1
  |_ =>rfl
 ·obtain rfl : j = 0 := by omega
  rw[za1];have h1:(E i).off+k<vs.size:=by simp only[cN] at k7;omega
  simp[Yj,k4,h1]
 cases j with
 |succ j =>simp at hl
 |zero =>
  simp only[List.getElem?_cons_zero,oo] at hl;subst hl;have h8:=k8 k hk;cases hr:rows k with
  |out id =>rw[hr] at h8;simp only[NROk] at h8;rw[h8];exact .any _ _ _
  |gone =>rw[hr] at h8;obtain⟨A,m,c,e⟩:=h8;rw[e];exact .any A m c
  |cell v =>rw[hr] at h8;exact h8.2.subX hx
  |row m r =>
   rw[hr] at h8;obtain⟨e1,e2,e3⟩:=h8;rw[e1];rcases e3 with⟨q1,q2,q3⟩ | ⟨b',cap',vs',T'',q1,q2,q3,q4,q5,q6,q7,q8⟩
   ·subst q3; rw [q2]; exact .emptyRo
   rw[q2];have hbd:∀i j,i<m→j<sz→(ek k).off+i * sz+j<vs'.size:=fun i j hi hj=>(by have h1:i * sz+sz≤cap' * sz:=va7;omega);refine .ro true sz m r (some ⟨b',(ek k).off,none⟩) ⟨b',(ek k).off,none⟩ cap' (fun i j=>vs'.getD ((ek k).off+i * sz+j) undef) q5 (fun _=>rfl) (fun _=>(oI.1 q4).1) (fun _=>hs b' ((hsub.iff b').2 ⟨k,hk,by rw[hr];trivial,q1⟩)) (fun _ _=>q3) (fun i hi=>(q8 i hi).1) (fun i hi=>(q8 i hi).2.1) (fun i j hi hj=>?_) fun i j lv hi hl=>?_
   ·rw [za1, ← Nat.add_assoc];have := hbd i j hi hj;simp [Yj, q4, this]
   have hj:j<sz:=(by rw[←(q8 i hi).1];exact(oE.1 hl).1);have:=hbd i j hi hj;exact((q8 i hi).2.2 j lv (vs'.getD ((ek k).off+i * sz+j) undef) hl (by simp[this])).subX hx

mutual
theorem zd0(hs : Sat N w0 X0 σ E a w)(hx : ∀b, X' b → Own σ E X0 b)(hz : ∀i c, fz i = some c → σ.blk i = some c ∧ ∀b, OwnAt σ.blk E i b → ¬X' b) : ∀{lv lv' : LV} {p : List Prop} {v : Value}, cmp g fz lv lv' = some p → All p →
    RepV w w0.heap.size (Own σ E X0) E lv v→RepV w w0.heap.size X' (envG g E) lv' v
  |.int k n, lv', p, v, h, ha, hr => by
    simp only[cmp] at h
    split at h
    · obtain ⟨h1,rfl⟩:=za5 h
      have:=ol h1
      subst this
      have:=ha.1
      subst this
      rw[hr.int_inv];exact .c _ _ (.int _ _)
    · cases h
  |.bool n, lv', p, v, h, ha, hr => by
    simp only[cmp] at h
    split at h
    · cases h
      have:=ha.1
      subst this
      rw[hr.bool_inv];exact .c _ _ (.bool _)
    · cases h
  |.str n, lv', p, v, h, ha, hr => by
    simp only[cmp] at h
    split at h
    · cases h
      have:=ha.1
      subst this
      rw[hr.str_inv];exact .c _ _ (.str _)
    · cases h
  |.agg l, lv', p, v, h, ha, hr => by
    simp only[cmp] at h
    split at h
    · obtain ⟨vs,rfl,hl,hc⟩:=hr.agg_inv
      obtain⟨h1,h2⟩:=zex hs hx hz h ha
      refine .agg _ vs vbX fun i lv u hi hu=>?_
      obtain⟨y,hy,hy'⟩:=h2 i lv hi
      exact hy' u (hc i y u hy hu)
    · cases h
  |.tup l, lv', p, v, h, ha, hr => by
    simp only[cmp] at h
    split at h
    · obtain ⟨vs,rfl,hl,hc⟩:=hr.tup_inv
      obtain⟨h1,h2⟩:=zex hs hx hz h ha
      refine .tup _ vs vbX fun i lv u hi hu=>?_
      obtain⟨y,hy,hy'⟩:=h2 i lv hi
      exact hy' u (hc i y u hy hu)
    · cases h
  |.ro fr sz n row, lv', p, v, h, ha, hr => by
    simp only[cmp] at h
    split at h
    · obtain ⟨h1,rfl⟩:=za5 h
      simp only[oc,oi,od] at h1
      have e:=om h1.1
      subst e
      exact .c _ _ ((hr.ro_inv.rows (fun hf=>by rcases h1.2 with h2 | h2<;>simp_all) ha.1).subX hx)
    · cases h
  |.ep row off, lv', p, v, h, ha, hr => by
    simp only[cmp] at h
    split at h
    · obtain ⟨h1,rfl⟩:=za5 h
      have e:=om h1
      subst e
      have e:=ha.1
      subst e
      exact .c _ _ (hr.ep_inv.subX hx)
    · cases h
  |.nilP, lv', p, v, h, ha, hr => by
    simp only[cmp] at h
    rw[hr.nilP_inv]
    split at h
    · exact .c _ _ .nilP
    · cases h
  |.clo f l, lv', p, v, h, ha, hr => by
    simp only[cmp] at h
    split at h
    · split at h
      · rename_i q hq
        obtain⟨e,rfl⟩:=za5 h
        have e:=om e
        subst e
        obtain⟨vs,rfl,hl,hc⟩:=hr.clo_inv
        obtain⟨h1,h2⟩:=zex hs hx hz hq ha
        refine .clo _ _ vs vbX fun i lv u hi hu=>?_
        obtain⟨y,hy,hy'⟩:=h2 i lv hi
        exact hy' u (hc i y u hy hu)
      · cases h
    · cases h
  |.rm _ _,lv',p,v,h,ha,hr=>by simp only[cmp] at h;cases h
  |.nilM, lv', p, v, h, ha, hr => by
    simp only[cmp] at h
    rw[hr.nilM_inv]
    split at h
    · exact .c _ _ .nilM
    · cases h
  |.nilS, lv', p, v, h, ha, hr => by
    simp only[cmp] at h
    rw[hr.nilS_inv]
    split at h
    · exact .c _ _ .nilS
    · cases h
      have:=ha.1
      subst this
      exact .c _ _ .emptyRo
    · split at h
      · rename_i i _ hi
        have:=RepV.own (w:=w) (B:=w0.heap.size) (X:=X') (E:=envG g E) i
        rw[zm8 hi] at this
        exact this
      · cases h
    · cases h
  |.fn f, lv', p, v, h, ha, hr => by
    simp only[cmp] at h
    split at h
    · obtain ⟨h1,rfl⟩:=za5 h
      have e:=om h1
      subst e
      rw[hr.fn_inv];exact .c _ _ (.fn _)
    · cases h
  |.vp i off, lv', p, v, h, ha, hr => by
    simp only[cmp] at h
    split at h
    · obtain ⟨h1,rfl⟩:=za5 h
      simp only[oc] at h1
      have e:=om h1.1
      subst e
      obtain⟨b,hb,rfl⟩:=hr.vp_inv
      exact .vp _ _ b (by rw[zik h1.2];exact hb)
    · cases h
  |.own i, lv', p, v, h, ha, hr => by
    simp only[cmp] at h
    split at h
    · obtain ⟨h1,rfl⟩:=za5 h
      rw[hr.own_inv,←zik (E:=E) h1]
      exact .own _
    · split at h
      · rename_i sz n row hfz
        obtain⟨h1,rfl⟩:=za5 h
        have e:=om h1
        subst e
        obtain⟨hb,hno⟩:=hz i _ hfz
        have := zm5 hs hx (v := .own i) (x := .ro true sz n row) (is := [i]) (by simp [frz, hb]) (fun k hk b hkb => by
          rw[oR.1 hk] at hkb;exact hno b (.inl ⟨vbM,hkb⟩)) hr
        exact .c _ _ (this.rows (fun _=>rfl) ha.1)
      · rename_i cl sz n rows hfz
        obtain⟨h1,rfl⟩:=za5 h
        have e:=om h1
        subst e
        obtain⟨hb,hno⟩:=hz i _ hfz
        rw[hr.own_inv]
        have:=zze (hs.blks i _ hb) hx (fun b hib=>hno b (.inl ⟨vbM,hib⟩)) fun b hib=>hno b (.inr ⟨by rw[hb];trivial,hib⟩)
        exact .c _ _ (RepC.rows (fr:=true) this (fun _=>rfl) ha.1)
      · cases h
    · cases h
  |.ap i sz k off, lv', p, v, h, ha, hr => by
    simp only[cmp] at h
    split at h
    · obtain ⟨h1,rfl⟩:=za5 h
      simp only[oc] at h1
      have e:=om h1.1
      subst e
      have e:=om h1.2.1
      subst e
      have e:=ha.1
      subst e
      obtain⟨b,hb,hk,rfl⟩:=hr.ap_inv
      have:=RepV.ap (w:=w) (B:=w0.heap.size) (X:=X') (E:=envG g E) _ sz k off b (by rw[zik h1.2.2];exact hb) (by rw[zik h1.2.2];exact hk)
      rw[zik h1.2.2] at this
      exact this
    · cases h
  |.mp i, lv', p, v, h, ha, hr => by
    simp only[cmp] at h
    split at h
    · obtain ⟨h1,rfl⟩:=za5 h
      obtain⟨b,hb,rfl⟩:=hr.mp_inv
      exact .mp _ b (by rw[zik h1];exact hb)
    · cases h
  |.k b o, lv', p, v, h, ha, hr => by
    simp only[cmp] at h
    split at h
    · obtain ⟨h1,rfl⟩:=za5 h
      simp only[oc] at h1
      have e:=om h1.1
      subst e
      have e:=om h1.2
      subst e
      rw[hr.k_inv]
      exact .c _ _ (.k b o)
    · cases h
  |.er b, lv', p, v, h, ha, hr => by
    simp only[cmp] at h
    split at h
    · cases h
      have e:=ha.1
      subst e
      have hc:=hr.er_inv
      cases hc with
      |er _ _ h0 h1=>exact .c _ _ (.er b v h0 h1)
    · cases h
  |.fv, lv', p, v, h, ha, hr => by
    simp only[cmp] at h
    split at h
    · have hc:=hr.fv_inv
      cases hc with
      |fv f cs=>exact .c _ _ (.fv f cs)
      |fv0=>exact .c _ _ .fv0
    · cases h
  |.any, lv', p, v, h, ha, hr => by
    simp only[cmp] at h
    split at h
    · have hc:=hr.any_inv
      cases hc with
      |any A n c=>exact .c _ _ (.any A n c)
    · cases h
  |.ifc i x, lv', p, v, h, ha, hr => by
    simp only[cmp] at h
    split at h
    · split at h
      · rename_i q hq
        obtain⟨h1,rfl⟩:=za5 h
        have e:=om h1
        subst e
        obtain⟨u,rfl,hu⟩:=hr.ifc_inv
        exact .ifc i _ u (zd0 hs hx hz hq ha hu)
      · cases h
    · cases h
  |.whn b x, lv', p, v, h, ha, hr => by
    obtain⟨k1,k2⟩:=hr.agg_undef
    simp only[cmp] at h
    split at h
    · split at h
      · rename_i q hq
        cases h
        have e:=ha.1
        subst e
        exact .whn _ _ _ (fun hb=>zd0 hs hx hz hq (All.map_imp ha.2 hb) (k1 hb)) k2
      · cases h
    · split at h
      · rename_i q hq
        cases h
        exact zd0 hs hx hz hq ha.2 (k1 ha.1)
      · cases h
theorem zex(hs : Sat N w0 X0 σ E a w)(hx : ∀b, X' b → Own σ E X0 b)(hz : ∀i c, fz i = some c → σ.blk i = some c ∧ ∀b, OwnAt σ.blk E i b → ¬X' b) : ∀{l l' : List LV} {p : List Prop}, cmpL g fz l l' = some p → All p →
    l.length=l'.length∧∀(i:Nat) lv',l'[i]?=some lv'→∃lv,l[i]?=some lv∧∀v,RepV w w0.heap.size (Own σ E X0) E lv v→RepV w w0.heap.size X' (envG g E) lv' v
  |[], l', p, h, ha => by
    cases l' with
    |nil=>exact⟨rfl,fun i x hx=>by simp at hx⟩
    |cons y l'=>simp[cmpL] at h
  |x :: l, l', p, h, ha => by
    cases l' with
    |nil=>simp[cmpL] at h
    |cons y l' =>
      simp only[cmpL] at h
      split at h
      · rename_i q1 q2 h1 h2
        cases h
        obtain⟨a1,a2⟩:=All.append.1 ha
        obtain⟨k1,k2⟩:=zex hs hx hz h2 a2
        refine⟨by simp[k1],fun i z hz'=>?_⟩
        cases i with
        |zero=>simp at hz';subst hz';exact⟨x,vbZ,fun v hv=>zd0 hs hx hz h1 a1 hv⟩
        |succ i=>simpa using k2 i z (by simpa using hz')
      · cases h
end
end

def z0h(wd n n':Nat)(rows rows':Nat→NR):Prop:=n=n'∧∀k,k<cN wd n→rows k=rows' k
def z1o(wd d len : Nat)(row : Nat → List LV)(n n' : Nat)(rows rows' : Nat → NR) : Prop :=
  n=n'∧∃k0,k0<cN wd n∧rows k0=.out d∧rows' k0=.row len row∧∀k,k<cN wd n→k≠k0→rows k=rows' k∧∀id,rows' k≠.out id
def cmpB(g : List (Nat × Option Nat))(fz : Nat → Option BC)(o : Option (Option Nat))(sb : Nat → Option BC)(pt : Option Nat) : BC → Option (List Prop)
  | .var cs' => match o with
    | some (some j) => match sb j with
      |some (.var cs)=>cmpL g fz cs cs'
      |_=>none
    |_=>none
  | .arr sz' n' row' => match o with
    | some (some j) => match sb j with
      |some (.arr sz n row)=>opt (yv sz sz') [zbo n n' row row']
      |_=>none
    |some none=>some [n'=0]
    |none=>none
  | .mp kd' m' => match o with
    | some (some j) => match sb j with
      |some (.mp kd m)=>some [kd=kd'∧m=m']
      |_=>none
    |_=>none
  | .nest wd' clt sz' n' rows' => match o with
    | some (some j) => match sb j with
      | some (.nest wd cl sz n rows) => match pt with
        |none=>opt (yv sz sz'&&(yv wd wd'&&(cl&&clt))) [z0h wd n n' rows rows']
        | some d => match sb d with
          |some (.arr szd len row)=>opt (yv sz sz'&&(yv szd sz&&(yv wd wd'&&clt))) [z1o wd d len row n n' rows rows']
          |_=>none
      |_=>none
    |some none=>opt clt [n'=0]
    |none=>none
  | .bld T' e' s' => match o with
    | some (some j) => match sb j with
      | some (.bld T e s) => match pt with
        |none=>opt (yv T T'&&yv e e') [s=s']
        |some _=>none
      |_=>none
    |_=>none
def zgz(g : List (Nat × Option Nat))(fz : Nat → Option BC)(sl : Nat → Option LV) : List (Nat × LV) → Option (List Prop)
  |[]=>some []
  | x :: r => match sl x.1 with
    | some lv => match cmp g fz lv x.2, zgz g fz sl r with
      |some p,some q=>some (p++q)
      |_,_=>none
    |none=>none
def zgm(g : List (Nat × Option Nat))(fz : Nat → Option BC)(sb : Nat → Option BC) : List (Nat × BC) → Option (List Prop)
  |[]=>some []
  | x :: r => match cmpB g fz (look g x.1) sb (putOf g x.1) x.2, zgm g fz sb r with
    |some p,some q=>some (p++q)
    |_,_=>none
def mentsB(u : Nat → Bool) : BC → Bool
  |.var cs=>zdh u cs
  |.arr _ _ _=>true
  |.mp _ _=>true
  |.nest _ _ _ _ _=>true
  |.bld _ _ _=>true
def zds(g : List (Nat × Option Nat))(x : Nat × BC) : List Nat :=
  match look g x.1 with
  | some (some j) => match x.2 with
    | .nest _ _ _ _ _ => match putOf g x.1 with
      |some d=>[j,d]
      |none=>[j]
    |_=>[j]
  |_=>[]
def imgs(g : List (Nat × Option Nat)) : List (Nat × BC) → List Nat
  |[]=>[]
  |x :: r=>zds g x++imgs g r
def disjB(l m:List Nat):Bool:=l.all fun i=>!mem m i
theorem zzs{l m:List Nat}(h:disjB l m=true){k:Nat}(h1:k∈l)(h2:k∈m):False:=by have:=o0.1 h k h1;rw[mem_iff.2 h2] at this;cases this
def fzOf(im:List Nat)(sb:Nat→Option BC):Nat→Option BC:=fun i=>bif mem im i then none else sb i
def pinOk(g : List (Nat × Option Nat))(i : Nat) : Bool := !Nat.ble 900000 i || match look g i with
  |some (some k)=>yv k i
  |_=>false
def okT(g : List (Nat × Option Nat))(T : St) : Bool :=
  T.blks.all (fun x=>memU T.used x.1&&(mentsB (memU T.used) x.2&&(pinOk g x.1&&(zfg (zds g x)&&T.blks.all fun y=>yv x.1 y.1||disjB (zds g x) (zds g y)))))&&T.slots.all fun x=>zdw (memU T.used) x.2
def leS(g : List (Nat × Option Nat))(S T : St) : Option (List Prop) :=
  bif okT g T then
    match zgz g (fzOf (imgs g T.blks) (look S.blks)) (look S.slots) T.slots,zgm g (fzOf (imgs g T.blks) (look S.blks)) (look S.blks) T.blks with
    |some p,some q=>some (p++q)
    |_,_=>none
  else none

theorem zcn{α : Type} : ∀{l : List (Nat × α)} {i : Nat} {c : α}, look l i = some c → (i, c) ∈ l
  |[],i,c,h=>by simp[look] at h
  |y :: l, i, c, h => by
    rw[show(y :: l)=(y.1,y.2) :: l from rfl,za2] at h
    by_cases e:i=y.1
    · grind
    · simp only [e] at h
      exact List.mem_cons_of_mem _ (zcn h)
theorem zkb{g : List (Nat × Option Nat)}{fz : Nat → Option BC}{sl : Nat → Option LV} : ∀{l : List (Nat × LV)} {p : List Prop}, zgz g fz sl l = some p → All p → ∀x ∈ l, ∃lv q, sl x.1 = some lv ∧ cmp g fz lv x.2 = some q ∧ All q
  |[],p,h,ha,x,hx=>by cases hx
  |y :: l, p, h, ha, x, hx => by
    simp only[zgz] at h
    split at h
    · rename_i lv hlv
      split at h
      · rename_i p1 q1 h1 h2
        cases h
        obtain⟨a1,a2⟩:=All.append.1 ha
        rcases oQ.1 hx with e | hx
        · grind
        · exact zkb h2 a2 x hx
      · cases h
    · cases h
theorem zf3{g : List (Nat × Option Nat)}{fz sb : Nat → Option BC} : ∀{l : List (Nat × BC)} {p : List Prop}, zgm g fz sb l = some p → All p → ∀x ∈ l, ∃q, cmpB g fz (look g x.1) sb (putOf g x.1) x.2 = some q ∧ All q
  |[],p,h,ha,x,hx=>by cases hx
  |y :: l, p, h, ha, x, hx => by
    simp only[zgm] at h
    split at h
    · rename_i p1 q1 h1 h2
      cases h
      obtain⟨a1,a2⟩:=All.append.1 ha
      rcases oQ.1 hx with e | hx
      · grind
      · exact zf3 h2 a2 x hx
    · cases h
theorem zog{g : List (Nat × Option Nat)}{fz sb : Nat → Option BC}{l : List (Nat × BC)}{q : List Prop}(h : zgm g fz sb l = some q)(hq : All q){i wd sz n : Nat}{cl : Bool}{rows : Nat → NR}(hi : (i, .nest wd cl sz n rows) ∈ l) : cl = true := by
 obtain⟨pr,k1,k2⟩:=zf3 h hq _ hi;simp only[cmpB] at k1;split at k1
 ·split at k1
  ·split at k1
   ·obtain ⟨k3, _⟩ := za5 k1;grind
   split at k1
   ·obtain ⟨k3, _⟩ := za5 k1;grind
   cases k1
  cases k1
 ·exact (za5 k1).1
 cases k1
theorem zro{g : List (Nat × Option Nat)} : ∀{l : List (Nat × BC)} {x : Nat × BC} {j : Nat}, x ∈ l → j ∈ zds g x → j ∈ imgs g l
  |[],x,j,hx,h=>by cases hx
  |y :: l, x, j, hx, h => by
    rcases oQ.1 hx with e | hx
    · exact List.mem_append_left _ (e ▸ h)
    · exact List.mem_append_right _ (zro hx h)

section
variable {N:Nat} {w0 w:World} {X0:Fr} {E:Env} {a:Act} {g:List (Nat×Option Nat)} {S T:St}

theorem zvd{p q : List Prop}(hT : okT g T = true)(h1 : zgz g (fzOf (imgs g T.blks) (look S.blks)) (look S.slots) T.slots = some p)(h2 : zgm g (fzOf (imgs g T.blks) (look S.blks)) (look S.blks) T.blks = some q)(hp : All p)(hq : All q)(hs : Sat N w0 X0 S.fs E a w) : Sat N w0 X0 T.fs (envG g E) a w ∧ (∀b, Own T.fs (envG g E) X0 b → Own S.fs E X0 b) ∧ ∀i c, fzOf (imgs g T.blks) (look S.blks) i = some c → S.fs.blk i = some c ∧ ∀b, OwnAt S.fs.blk E i b → ¬Own T.fs (envG g E) X0 b := by
 simp only[okT, oc] at hT;obtain⟨t1, t2⟩ := hT;have hB : ∀i c, T.fs.blk i = some c → (∃j c', look g i = some (some j) ∧ S.fs.blk j = some c' ∧ j ∈ zds g (i, c) ∧ (Mul (some c) → Mul (some c') ∧ ∀d, putOf g i = some d → d ∈ zds g (i, c) ∧ ∃sz n row, S.fs.blk d = some (.arr sz n row))) ∨ (look g i = some none) := by
  intro i c hi;have hm:=zcn hi;obtain⟨pr,k1,k2⟩:=zf3 h2 hq _ hm;unfold cmpB at k1;cases c with
  |var cs =>
   simp only at k1;split at k1
   ·rename_i j hj;split at k1
    ·rename_i cs' hcs;exact .inl ⟨j, _, hj, hcs, by simp [zds, hj], fun h => h.elim⟩
    cases k1
   cases k1
  |arr sz n row =>
   simp only at k1;split at k1
   ·rename_i j hj;split at k1
    ·rename_i sz' n' row' hcs;exact .inl ⟨j, _, hj, hcs, by simp [zds, hj], fun h => h.elim⟩
    cases k1
   ·grind
   cases k1
  |mp kd m =>
   simp only at k1;split at k1
   ·rename_i j hj;split at k1
    ·rename_i kd' m' hcs;exact .inl ⟨j, _, hj, hcs, by simp [zds, hj], fun h => h.elim⟩
    cases k1
   cases k1
  |nest wd cl sz n rows =>
   simp only at k1;split at k1
   ·rename_i j hj;split at k1
    ·rename_i wd' cl' sz' n' rows' hcs;split at k1
     ·rename_i hpt;exact .inl ⟨j, _, hj, hcs, by simp [zds, hj, hpt], fun _ => ⟨trivial, fun d hd => by rw [hpt] at hd; cases hd⟩⟩
     rename_i d hpt;split at k1
     ·rename_i szd len row hd
      exact .inl ⟨j, _, hj, hcs, by simp [zds, hj, hpt], fun _ => ⟨trivial, fun d' hd' => by
        rw[hpt] at hd';cases hd';exact⟨by simp[zds,hj,hpt],szd,len,row,hd⟩⟩⟩
     cases k1
    cases k1
   ·rename_i hj; exact .inr hj
   cases k1
  |bld T e s =>
   simp only at k1;split at k1
   ·rename_i j hj;split at k1
    ·rename_i T' e' s' hcs;split at k1
     ·rename_i hpt;exact .inl ⟨j, _, hj, hcs, by simp [zds, hj], fun _ => ⟨trivial, fun d hd => by rw [hpt] at hd; cases hd⟩⟩
     cases k1
    cases k1
   cases k1
 have hat : ∀i b, OwnAt T.fs.blk (envG g E) i b → ∃c, T.fs.blk i = some c ∧ ∃k ∈ zds g (i, c), OwnAt S.fs.blk E k b := by
  intro i b hb;obtain⟨c,hc⟩:=oN.1 hb.ne;refine⟨c,hc,?_⟩;rcases hB i c hc with⟨j,c',g1,g2,g3,g4⟩ | g1
  ·rcases hb with ⟨_, hb⟩ | ⟨hm, j', hj', hb⟩
   ·rw [zfu g1] at hb;exact ⟨j, g3, .inl ⟨by rw [g2]; simp, hb⟩⟩
   rw[hc] at hm;obtain⟨g5,g6⟩:=g4 hm;rw[g1] at hj';cases hj';rcases hb with hb | ⟨d,hd,hb⟩
   ·exact ⟨j, g3, .inr ⟨by rw [g2]; exact g5, hb⟩⟩
   obtain⟨q1,sz,n,row,q2⟩:=g6 d hd;exact⟨d,q1,.inl ⟨by rw[q2];simp,hb⟩⟩
  rcases hb with⟨_,hb⟩ | ⟨hm,j',hj',_⟩
  ·rw [zm8 g1] at hb; cases hb
  rw[g1] at hj';cases hj'
 have hown : ∀b, Own T.fs (envG g E) X0 b → Own S.fs E X0 b := by
  intro b hb;rcases hb with h0 | ⟨i,hi⟩
  ·exact .inl h0
  obtain⟨_,_,k,_,hk⟩:=hat i b hi;exact .inr ⟨k,hk⟩
 have hz : ∀i c, fzOf (imgs g T.blks) (look S.blks) i = some c → S.fs.blk i = some c ∧ ∀b, OwnAt S.fs.blk E i b → ¬Own T.fs (envG g E) X0 b := by
  intro i c hi;unfold fzOf at hi;cases hm:mem (imgs g T.blks) i with
  |true =>rw[hm] at hi;cases hi
  |false =>
   rw[hm] at hi;refine⟨hi,fun b hb hob=>?_⟩;rcases hob with h0 | ⟨j,hj⟩
   ·exact hs.xneA h0 hb
   obtain⟨c',hc',k,hk,hkb⟩:=hat j b hj;have:=hs.injA k i b hkb hb;subst this;rw[mem_iff.2 (zro (zcn hc') hk)] at hm;cases hm
 have hblk : ∀i c, T.fs.blk i = some c → BlkOk w w0.heap.size (Own T.fs (envG g E) X0) (envG g E) i c := by
  intro i c hi;have hm:=zcn hi;obtain⟨pr,k1,k2⟩:=zf3 h2 hq _ hm;unfold cmpB at k1;cases c with
  |var cs =>
   simp only at k1;split at k1
   ·rename_i j hj;split at k1
    ·rename_i cs' hcs;obtain ⟨b, vs, T', e1, e2, e3, e4, e5⟩ := hs.blks j _ hcs;obtain ⟨l1, l2⟩ := zex hs hown hz k1 k2;refine ⟨b, vs, T', by rw [zfu hj]; exact e1, e2, e3, vbX, fun m lv v hl hv => ?_⟩;obtain ⟨lv0, m1, m2⟩ := l2 m lv hl;exact m2 v (e5 m lv0 v m1 hv)
    cases k1
   cases k1
  |mp kd m =>
   simp only at k1;split at k1
   ·rename_i j hj;split at k1
    ·rename_i kd' m' hcs;cases k1;obtain ⟨⟨rfl, rfl⟩, _⟩ := k2;obtain ⟨b, es, ck, e1, e2, e3, e4⟩ := hs.blks j _ hcs;exact ⟨b, es, ck, by rw [zfu hj]; exact e1, e2, e3, e4⟩
    cases k1
   cases k1
  |bld T e s =>
   simp only at k1;split at k1
   ·rename_i j hj;split at k1
    ·rename_i T' e' s' hcs;split at k1
     ·rename_i hpt;obtain ⟨k3, rfl⟩ := za5 k1;simp only [oc] at k3;have q1 := om k3.1;have q2 := om k3.2;subst q1; subst q2;have q3 := k2.1;subst q3;obtain ⟨b, v, p, e1, e2, e3⟩ := hs.blks j _ hcs;refine ⟨b, v, p, by rw [zfu hj]; exact e1, e2, fun x => ?_⟩
      have : (envG g E).s i x ↔ E.s j x := ⟨fun ⟨j', hj', h⟩ => (by
          rw[hj] at hj';cases hj'
          rcases h with h | ⟨d,hd,_⟩
          · exact h
          · rw [hpt] at hd;cases hd),fun h=>⟨j,hj,.inl h⟩⟩
      rw[this];exact e3 x
     cases k1
    cases k1
   cases k1
  |arr sz n row =>
   simp only at k1;split at k1
   ·rename_i j hj;split at k1
    ·rename_i sz' n' row' hcs;obtain ⟨k3, rfl⟩ := za5 k1;have e := om k3;subst e;obtain ⟨e, hrow⟩ := k2.1;subst e;have hb := (hs.blks j _ hcs).sub hown;have hE : envG g E i = E j := zfu hj;refine ⟨by rw [hE]; exact hb.1, ?_⟩;rw [hE];rcases hb.2 with f1 | ⟨b, cap, vs, T', f1, f2, f3, f4, f5, f6, f7, f8⟩
     ·exact .inl f1
     refine .inr ⟨b,cap,vs,T',f1,f2,f3,f4,f5,f6,f7,fun k hk=>?_⟩;rw[←hrow k hk];exact f8 k hk
    cases k1
   ·rename_i hj;cases k1;have e := k2.1;subst e;refine ⟨vbq, .inl ⟨vbq, vbq, rfl⟩⟩
   cases k1
  |nest wd clt sz n rows' =>
   simp only at k1;split at k1
   ·rename_i j hj;split at k1
    ·rename_i wd' cl sz' n' rows hcs;have hE : envG g E i = E j := zfu hj;obtain ⟨ek, hsub, hn, hk⟩ := (hs.blks j _ hcs).sub hown;split at k1
     ·rename_i hpt;obtain ⟨k3, rfl⟩ := za5 k1;simp only [oc] at k3;have e := om k3.1;have ew := om k3.2.1;subst e; subst ew;obtain ⟨e, hrow⟩ := k2.1;subst e;have hno : ∀ k id, k < cN wd' n' → rows' k ≠ .out id := fun k id hk => (by rw [← hrow k hk]; exact hsub.cl k3.2.2.1 k id hk);refine ⟨ek, ⟨fun b => ?_, ?_, ?_, fun _ => hno⟩, by rw [hE]; exact hn, ?_⟩
      ·have : (envG g E).s i b ↔ E.s j b := ⟨fun ⟨j', hj', h⟩ => (by
         rw[hj] at hj';cases hj'
         rcases h with h | ⟨d,hd,_⟩
         · exact h
         · rw [hpt] at hd;cases hd),fun h=>⟨j,hj,.inl h⟩⟩
       rw[this,hsub.iff b];exact⟨fun ⟨k,q1,q2,q3⟩=>⟨k,q1,by rw[←hrow k q1];exact q2,q3⟩,fun ⟨k,q1,q2,q3⟩=>⟨k,q1,by rw[hrow k q1];exact q2,q3⟩⟩
      ·intro k k' b q1 q2 q3 q4;rw [← hrow k q1] at q3;rw [← hrow k' q2] at q4;exact hsub.inj k k' b q1 q2 q3 q4
      ·intro k b q1 q2;rw [← hrow k q1] at q2;rw [hE];exact hsub.ne k b q1 q2
      rw[hE];rcases hk with f1 | ⟨b,cap,vs,T',f1,f2,f3,f4,f5,f6,f7,f8⟩
      ·exact .inl f1
      refine .inr ⟨b,cap,vs,T',f1,f2,f3,f4,f5,f6,f7,fun k hk=>?_⟩;have hf:=f8 k hk;rw[hrow k hk] at hf;exact hf.keep (ou _) (fun _ _ _=>rfl) (fun _ _ _=>rfl) (fun b hb=>.inl hb) (ou _) fun id hid=>absurd hid (hno k id hk)
     rename_i d hpt;split at k1
     ·rename_i szd len row hd;obtain ⟨k3, rfl⟩ := za5 k1;simp only [oc] at k3;have e := om k3.1;have e' := om k3.2.1;have ew := om k3.2.2.1;subst e;subst e';subst ew;obtain ⟨⟨e, k0, hk0, hout, hin, hrow⟩, _⟩ := k2;subst e;have had : ArrOk w w0.heap.size (Own T.fs (envG g E) X0) (E d) szd len row := (hs.blks d _ hd).sub hown;have hdl : S.fs.blk d ≠ none := (by rw [show S.fs.blk d = some _ from hd]; simp);have hjl : S.fs.blk j ≠ none := (by rw [show S.fs.blk j = some _ from hcs]; simp);have hjm : Mul (S.fs.blk j) := (by rw [show S.fs.blk j = some _ from hcs]; trivial);have hdj : d ≠ j := fun e => (by rw [e, show look S.blks j = _ from hcs] at hd; cases hd)
      have hdn : ∀b, (E d).b = some b → ∀k, k < cN wd' n' → (rows k).isRow → (ek k).b = some b → False := fun b hb k q1 q2 q3 =>
        hdj (hs.injA d j b (.inl ⟨hdl,hb⟩) (.inr ⟨hjm,(hsub.iff b).2 ⟨k,q1,q2,q3⟩⟩))
      let ek' : Nat → EI := fun k => if k = k0 then E d else ek k;have e0 : ek' k0 = E d := (by simp[ek']);have e1 : ∀k, k ≠ k0 → ek' k = ek k := fun k h => (by simp[ek', h]);have hr1 : ∀k, k < cN wd' n' → k ≠ k0 → (rows' k).isRow → (rows k).isRow := fun k q1 q2 q3 => (by rw[(hrow k q1 q2).1]; exact q3);have hno : ∀k id, k < cN wd' n' → rows' k ≠ .out id := fun k id hk => by
       by_cases hne:k=k0
       ·rw [hne, hin]; simp
       exact(hrow k hk hne).2 id
      refine⟨ek',⟨fun b=>?_,?_,?_,fun _=>hno⟩,by rw[hE];exact hn,?_⟩
      ·constructor
       ·rintro ⟨j', hj', h⟩;rw [hj] at hj'; cases hj';rcases h with h | ⟨d', hd', h⟩
        ·obtain ⟨k, q1, q2, q3⟩ := (hsub.iff b).1 h;have hne : k ≠ k0 := fun e => (by rw [e, hout] at q2; exact q2.elim);exact ⟨k, q1, by rw [← (hrow k q1 hne).1]; exact q2, by rw [e1 k hne]; exact q3⟩
        rw[hpt] at hd';cases hd';exact⟨k0,hk0,by rw[hin];trivial,by rw[e0];exact h⟩
       rintro⟨k,q1,q2,q3⟩;by_cases hne:k=k0
       ·subst hne;rw [e0] at q3;exact ⟨j, hj, .inr ⟨d, hpt, q3⟩⟩
       rw[e1 k hne] at q3;exact⟨j,hj,.inl ((hsub.iff b).2 ⟨k,q1,hr1 k q1 hne q2,q3⟩)⟩
      ·intro k k' b q1 q2 q3 q4 q5 q6;by_cases hne : k = k0
       ·by_cases hne' : k' = k0
        ·rw [hne, hne']
        subst hne;rw[e0] at q5;rw[e1 k' hne'] at q6;exact(hdn b q5 k' q2 (hr1 k' q2 hne' q4) q6).elim
       by_cases hne':k'=k0
       ·subst hne';rw [e0] at q6; rw [e1 k hne] at q5;exact (hdn b q6 k q1 (hr1 k q1 hne q3) q5).elim
       rw[e1 k hne] at q5;rw[e1 k' hne'] at q6;exact hsub.inj k k' b q1 q2 (hr1 k q1 hne q3) (hr1 k' q2 hne' q4) q5 q6
      ·intro k b q1 q2 q3 q4;rw [hE] at q4;by_cases hne : k = k0
       ·subst hne;rw [e0] at q3;exact hdj (hs.injA d j b (.inl ⟨hdl, q3⟩) (.inl ⟨hjl, q4⟩))
       rw[e1 k hne] at q3;exact hsub.ne k b q1 (hr1 k q1 hne q2) q3 q4
      rw[hE];rcases hk with f1 | ⟨b,cap,vs,T',f1,f2,f3,f4,f5,f6,f7,f8⟩
      ·exact .inl f1
      refine .inr ⟨b,cap,vs,T',f1,f2,f3,f4,f5,f6,f7,fun k hk=>?_⟩;have hf:=f8 k hk;by_cases hne:k=k0
      ·subst hne;rw [hout] at hf;rw [hin, e0];exact ⟨hf, had⟩
      rw[e1 k hne,←(hrow k hk hne).1];exact hf.keep (ou _) (fun _ _ _=>rfl) (fun _ _ _=>rfl) (fun b hb=>.inl hb) (ou _) fun id hid=>absurd ((hrow k hk hne).1 ▸ hid) ((hrow k hk hne).2 id)
     cases k1
    cases k1
   ·rename_i hj;obtain ⟨_, rfl⟩ := za5 k1;have e := k2.1;subst e;have z : ∀ k, ¬ k < cN wd 0 := fun k hk => (by rw [znd] at hk; exact oO _ hk);refine ⟨fun _ => eiNil, ⟨fun b => ⟨fun ⟨j', hj', _⟩ => (by rw [hj] at hj'; cases hj'), fun ⟨k, q1, _⟩ => absurd q1 (z _)⟩, fun k _ _ q1 => absurd q1 (z _), fun k _ q1 => absurd q1 (z _), fun _ k _ q1 => absurd q1 (z _)⟩, vbq, .inl ⟨vbq, vbq, rfl⟩⟩
   cases k1
 refine⟨⟨hs.size,hs.defers,hs.below,?_,?_,?_,?_,?_,?_,?_,fun b o hb=>⟨(hs.baseA b o hb).1,fun i hi=>?_⟩,hs.bown,fun i ei hp hi=>?_,fun i hi=>?_,hs.szf,hs.gh,hs.xge⟩,hown,hz⟩
 ·intro t lv ht;obtain ⟨lv0, pr, k1, k2, k3⟩ := zkb h1 hp _ (zcn ht);exact zd0 hs hown hz k2 k3 (hs.slots t lv0 k1)
 ·exact hblk
 ·intro i j b hi hj;obtain ⟨c, hc, k, hk, hkb⟩ := hat i b hi;obtain ⟨d, hd, l, hl, hlb⟩ := hat j b hj;have := hs.injA k l b hkb hlb;subst this;have q1 := o0.1 t1 _ (zcn hc);simp only [oc] at q1;have q2 := o0.1 q1.2.2.2.2 _ (zcn hd);simp only [oi] at q2;rcases q2 with q2 | q2
  ·exact om q2
  exact(zzs q2 hk hl).elim
 ·intro i hi;obtain ⟨c, hc⟩ := oN.1 hi;have q1 := o0.1 t1 _ (zcn hc);simp only [oc] at q1;exact q1.1
 ·intro t lv id ht hm;exact zbx hm (o0.1 t2 _ (zcn ht))
 ·intro i cells lv id hi hl hm;have q1 := o0.1 t1 _ (zcn hi);simp only [oc] at q1;exact zbx hm (zbk q1.2.1 lv hl)
 ·intro i wd cl sz n rows k id hi hk hr;obtain ⟨ek9, hs9, _⟩ := hblk i _ hi;exact absurd hr (hs9.cl (zog h2 hq (zcn hi)) k id hk)
 ·obtain ⟨_, _, k, _, hk⟩ := hat i b hi;exact (hs.baseA b o hb).2 k hk
 ·have h9 : 900000 ≤ i := by
   rcases oY i 900000 with h | h
   ·rw [X0.low i h] at hp; cases hp
   exact h
  obtain⟨c,hc⟩:=oN.1 hi;have q1:=o0.1 t1 _ (zcn hc);simp only[oc,pinOk,oZ h9,Bool.not_true,Bool.false_or] at q1;have q2:=q1.2.2.1;rcases hB i c hc with⟨j,c',g1,g2,_⟩ | g1
  ·rw [g1] at q2;have := om q2;subst this;rw [zfu g1];exact hs.pin j ei hp (by rw [g2]; simp)
  rw[g1] at q2;cases q2
 simp[St.fs,memU,oZ hi]

theorem H.le(hs : H N w0 X0 S a w)(g : List (Nat × Option Nat)){vcs : List Prop}(h : leS g S T = some vcs)(ha : All vcs) : H N w0 X0 T a w := by
 obtain⟨E,hs⟩:=hs;obtain⟨hT,h⟩:=zcl h;split at h
 ·rename_i p q h1 h2;cases h;obtain ⟨a1, a2⟩ := All.append.1 ha;exact ⟨_, (zvd hT h1 h2 a1 a2 hs).1⟩
 cases h
end
end Go.Lite

set_option linter.unusedSimpArgs false
namespace Go.Lite
open Go Go.RowKit
open _root_.List renaming range→yI
open _root_.Nat renaming zero_add→yA, ble→yy, zero_le→yS
open _root_.Option renaming isSome_iff_exists→YK
open _root_.Array renaming replicate→YM

def noX:Fr:=⟨fun _=>none,fun _=>False,fun _=>none,fun _ _=>rfl,0⟩

def resL(P : Program)(sl : Nat → Option LV)(blk : Nat → Option BC) : ResultVar → Option (LV × List Prop)
  |.tmp t=>ev sl (.tmp t)
  | .cell t T => match sl t with
    | some (.vp id off) => match blk id with
      |some (.var cells)=>(loadL P T cells off).map fun v=>(v,[])
      |_=>none
    |_=>none
def resLs(P : Program)(sl : Nat → Option LV)(blk : Nat → Option BC) : List ResultVar → Option (List LV × List Prop)
  |[]=>some ([],[])
  | x :: r => match resL P sl blk x, resLs P sl blk r with
    |some (v,p),some (vs,q)=>some (v :: vs,p++q)
    |_,_=>none
def oneOr : List LV → LV
  |[x]=>x
  |l=>.tup l
def enumB : List BC → Nat → List (Nat × BC)
  |[],_=>[]
  |c :: r,i=>(i,c) :: enumB r (i+1)
def isArr : BC → Bool
  |.arr _ _ _=>true
  |.var _=>false
  |.mp _ _=>false
  |.nest _ cl _ _ _=>cl
  |.bld _ _ _=>false
def FrsN : NR → Prop
  |.row m r=>∀k,k<m→FrsL (r k)
  |.cell v=>Frs v
  |_=>True
def FrsB : BC → Prop
  |.arr _ n row=>∀k,k<n→FrsL (row k)
  |.var _=>False
  |.mp _ _=>False
  |.nest wd _ _ n rows=>∀k,k<cN wd n→FrsN (rows k)
  |.bld _ _ _=>False
def enumL : List LV → Nat → List (Nat × LV)
  |[],_=>[]
  |c :: r,i=>(i,c) :: enumL r (i+1)

theorem zig : ∀(l : List BC) (k i : Nat), look (enumB l k) i = if k ≤ i then l[i - k]? else none
  |[],k,i=>by simp[enumB,look]
  |c :: l, k, i => by
    rw[enumB,za2]
    simp only
    rw[zig l (k+1) i]
    grind
theorem zif : ∀(l : List LV) (k i : Nat), look (enumL l k) i = if k ≤ i then l[i - k]? else none
  |[],k,i=>by simp[enumL,look]
  |c :: l, k, i => by
    rw[enumL,za2]
    simp only
    rw[zif l (k+1) i]
    grind

def retL(P : Program)(fn : Func)(s : St)(g : List (Nat × Option Nat))(r : LV)(arrs : List BC) : Option (List Prop) :=
  match resLs P (look s.slots) (look s.blks) fn.results.toList with
  |some (l, p) =>
    let T:St:=⟨[],enumB arrs 0,yI arrs.length⟩
    match zgm g (fzOf (imgs g T.blks) (look s.blks)) (look s.blks) T.blks,cmp g (fzOf (imgs g T.blks) (look s.blks)) (oneOr l) r with
    |some q,some q'=>bif okT g T&&(zdw (mem T.used) r&&arrs.all isArr) then some (p++(q++(q'++(Frs r :: arrs.map FrsB)))) else none
    |_,_=>none
  |none=>none

def RetOk(P : Program)(fn : Func)(w0 : World)(r : LV)(arrs : List BC) : AP := fun a w =>
  a.defers=[]∧∃v,(results fn a.tmps).run P w=.ok v w∧Below w0.heap.size w0 w∧ResOk w w0.heap.size r arrs v

section
variable {P:Program} {N:Nat} {w0 w:World} {X0:Fr} {σ:FS} {E:Env} {a:Act}

theorem RepV.frsV{B : Nat}{X : Nat → Prop}{lv : LV}{v : Value}(h : RepV w B X E lv v)(hf : Frs lv) : RepV w B (fun b => b < B ∨ X b) E lv v := by
 induction h with
 |c _ _ h =>exact .c _ _ (h.frs hf)
 |vp =>exact absurd hf vbO
 |ap =>exact absurd hf vbO
 |mp =>exact absurd hf vbO
 |clo =>exact absurd hf vbO
 |whn =>exact absurd hf vbO
 |ifc t lv v _ ih =>exact .ifc t lv v (ih vbt)
 |own id =>exact .own id
 |agg l vs hl _ ih =>exact .agg l vs hl fun i x u hx hu=>ih i x u hx hu (zee vbt i x hx)
 |tup l vs hl _ ih =>exact .tup l vs hl fun i x u hx hu=>ih i x u hx hu (zee vbt i x hx)

theorem BlkOk.frsV{B : Nat}{X : Nat → Prop}{i : Nat}{c : BC}(h : BlkOk w B X E i c)(hf : FrsB c) : BlkOk w B (fun b => b < B ∨ X b) E i c := by
 cases c with
 |var cells =>exact absurd hf (by simp[FrsB])
 |mp kd m =>exact absurd hf (by simp[FrsB])
 |bld T e s =>exact absurd hf (by simp[FrsB])
 |arr sz n row =>
  refine⟨h.1,?_⟩;rcases h.2 with h1 | ⟨b,cap,vs,T,h1,h2,h3,h4,h5,h6,h7,h8⟩
  ·grind
  exact .inr ⟨b,cap,vs,T,h1,h2,h3,h4,h5,h6,h7,fun k hk=>⟨(h8 k hk).1,(h8 k hk).2.1,fun j lv v hl hv=>((h8 k hk).2.2 j lv v hl hv).frs (zee (hf k hk) j lv hl)⟩⟩
 |nest wd cl sz n rows =>
  obtain⟨ek,g1,g2,g3⟩:=h;refine⟨ek,g1,g2,?_⟩;rcases g3 with h1 | ⟨b,cap,vs,T,h1,h2,h3,h4,h5,h6,h7,h8⟩
  ·exact .inl h1
  refine .inr ⟨b,cap,vs,T,h1,h2,h3,h4,h5,h6,h7,fun k hk=>?_⟩;have q:=h8 k hk;have f:=hf k hk;cases hr:rows k with
  |out id =>rw[hr] at q;exact q
  |gone =>rw[hr] at q;exact q
  |cell v =>rw[hr] at q f;exact⟨q.1,q.2.frs f⟩
  |row m r =>
   rw[hr] at q f;refine⟨q.1,q.2.1,?_⟩;rcases q.2.2 with h1 | ⟨b,cap,vs,T,h1,h2,h3,h4,h5,h6,h7,h8⟩
   ·exact .inl h1
   exact .inr ⟨b,cap,vs,T,h1,h2,h3,h4,h5,h6,h7,fun k hk=>⟨(h8 k hk).1,(h8 k hk).2.1,fun j lv v hl hv=>((h8 k hk).2.2 j lv v hl hv).frs (zee (f k hk) j lv hl)⟩⟩

def rv(tmps : Array Value) : ResultVar → Sem Value
  |.tmp t=>pure (tmps.getD t undef)
  |.cell a t=>do loadVar t (←asAddr (tmps.getD a undef))

theorem zy8(hs : Sat N w0 X0 σ E a w){x : ResultVar}{lv : LV}{p : List Prop}(h : resL P σ.slot σ.blk x = some (lv, p))(ha : All p) : (∃v, (rv a.tmps x).run P w = .ok v w ∧ RepV w w0.heap.size (Own σ E X0) E lv v) ∧ ∀id, Ment lv id → σ.used id = true := by
 unfold resL at h;split at h
 ·rename_i t;obtain ⟨h1, h2⟩ := zae hs h ha;exact ⟨⟨_, rfl, h1⟩, h2⟩
 rename_i t T;split at h
 ·rename_i id off hsl;split at h
  ·rename_i cells hb;simp only [oq] at h;obtain ⟨lv', hl, rfl, rfl⟩ := h;obtain ⟨b, g1, g2⟩ := (hs.slots t _ hsl).vp_inv;obtain ⟨b', vs, T', k1, k2, k3, k4, k5⟩ := hs.blks id _ hb;rw [g1] at k1; cases k1
   obtain ⟨⟨v, m1, m2⟩, m3⟩ := zof (P := P) (w := w) (B := w0.heap.size) (X := Own σ E X0) (E := E) hl (ad := ⟨b, 0, none⟩) (cv := fun j => vs.getD j undef) (fun j hj => by
     rw[za1,yA]
     have hj':j<vs.size:=vbX
     simp[World.cell?,k3,hj']) (fun j y hy=>by
     have hj:j<vs.size:=vbY
     exact k5 j y _ hy (by simp[hj]))
   refine⟨⟨v,?_,m2⟩,fun i hm=>?_⟩
   ·rw [za1, yA] at m1;simp only [rv, oD, g2, asAddr, oJ, ow, m1]
   obtain⟨y,hy,hyy⟩:=m3 i hm;exact hs.wfb id cells y i hb hy hyy
  cases h
 cases h

theorem zjt(hs : Sat N w0 X0 σ E a w) : ∀{l : List ResultVar} {xs : List LV} {p : List Prop}, resLs P σ.slot σ.blk l = some (xs, p) → All p →
    ∃vs:List Value,(l.mapM (rv a.tmps)).run P w=.ok vs w∧vs.length=xs.length∧∀(i:Nat) lv v,xs[i]?=some lv→vs[i]?=some v→RepV w w0.heap.size (Own σ E X0) E lv v
  |[],xs,p,h,ha=>by cases h;exact⟨[],rfl,rfl,fun i lv v h=>vbQ⟩
  |x :: l, xs, p, h, ha => by
    simp only[resLs] at h
    split at h
    · rename_i v1 p1 vs1 q1 h1 h2
      cases h
      obtain⟨a1,a2⟩:=All.append.1 ha
      obtain⟨⟨v,k1,k2⟩,_⟩:=zy8 hs h1 a1
      obtain⟨vs,m1,m2,m3⟩:=zjt hs h2 a2
      refine⟨v :: vs,?_,by simp[m2],fun i lv u hi hu=>?_⟩
      · simp_all
      · grind
    · cases h

theorem zjs{fn:Func}{vs:List Value}(h:(fn.results.toList.mapM (rv a.tmps)).run P w=.ok vs w):(results fn a.tmps).run P w=.ok (if h:vs.length=1 then vs[0] else .tuple vs.toArray) w:=by have e:(results fn a.tmps)=(do let vs ←fn.results.mapM (rv a.tmps);pure (if h:vs.size=1 then vs[0] else .tuple vs)):=(by congr 1);rw[e];rw[Array.mapM_eq_mapM_toList,oD,Sem.run_map,h];simp_all

theorem zn6{B : Nat}{X : Nat → Prop}{l : List LV}{vs : List Value}(hl : vs.length = l.length)(h : ∀(i : Nat) lv v, l[i]? = some lv → vs[i]? = some v → RepV w B X E lv v) : RepV w B X E (oneOr l) (if h : vs.length = 1 then vs[0] else .tuple vs.toArray) := by
 by_cases h1:vs.length=1
 ·rw [dif_pos h1];match vs, h1 with
  |[v], _ =>
   match l,hl with
   |[x],_ =>exact h 0 x v rfl rfl
 rw[dif_neg h1];have e : oneOr l = .tup l := by
  match l,hl with
  |[],_ =>rfl
  |[x],hl =>exact absurd hl h1
  |x :: y :: r,_ =>rfl
 rw[e];exact .tup l _ vbG fun i lv v hi hv=>h i lv v hi (by simpa using hv)

theorem All.cons{p:Prop}{l:List Prop}:All (p :: l)↔p∧All l:=Iff.rfl
theorem All.mem_map{α : Type}{f : α → Prop} : ∀{l : List α}, All (l.map f) → ∀x ∈ l, f x
  |[],_,x,hx=>by cases hx
  |y :: l, h, x, hx => by
    rcases oQ.1 hx with e | hx
    · rw [e];exact h.1
    · exact All.mem_map h.2 x hx

theorem ret_ok{fn : Func}{s : St}(hs : H N w0 noX s a w)(g : List (Nat × Option Nat)){r : LV}{arrs : List BC}{vcs : List Prop}(h : retL P fn s g r arrs = some vcs)(ha : All vcs) : RetOk P fn w0 r arrs a w := by
 obtain⟨E,hs⟩:=hs;unfold retL at h;split at h
 ·rename_i l p h1;simp only at h;split at h
  ·rename_i q q' h2 h3;obtain ⟨hc, h⟩ := zaj h;subst h;obtain ⟨a1, ha⟩ := All.append.1 ha;obtain ⟨a2, ha⟩ := All.append.1 ha;obtain ⟨a3, ha⟩ := All.append.1 ha;simp only [oc] at hc;obtain ⟨c1, c2, c3⟩ := hc;obtain ⟨vs, k1, k2, k3⟩ := zjt hs h1 a1;obtain ⟨d1, d2, d3⟩ := zvd (T := ⟨[], enumB arrs 0, yI arrs.length⟩) c1 rfl h2 trivial a2 hs;have hr := zd0 hs d2 d3 h3 a3 (zn6 k2 k3);refine ⟨hs.defers, _, zjs k1, hs.below, envG g E, ?_⟩;have hlk : ∀ i, look (enumB arrs 0) i = arrs[i]? := fun i => (by simp [zig]);have hlf : (St.fs ⟨[], enumB arrs 0, yI arrs.length⟩).blk = fun i => arrs[i]? := funext hlk;have hX : OwnR w0.heap.size arrs (envG g E) = fun b => b < w0.heap.size ∨ Own (St.fs ⟨[], enumB arrs 0, yI arrs.length⟩) (envG g E) noX b := (by funext b;simp only [OwnR, Own, noX, hlf, false_or]);rw [hX];refine ⟨hr.frsV ha.1, fun i c hi => ⟨?_, ?_⟩, fun i j b hi hj => d1.injA i j b (by rw [hlf]; exact hi) (by rw [hlf]; exact hj), fun id hm => ?_⟩
   ·exact (d1.blks i c ((hlk i).trans hi)).frsV (All.mem_map ha.2 c (oW hi))
   ·have := o0.1 c3 c (oW hi);cases c with
    |var cs =>cases this
    |mp kd m =>cases this
    |bld T e s =>cases this
    |arr sz n row =>trivial
    |nest wd cl sz n rows =>exact this
   have:=mem_iff.1 (zbx hm c2);grind
  cases h
 cases h

theorem Fn.intro{f : FuncId}{fn : Func}{args : List LV}{r : LV}{arrs : List BC}(N : Nat)(hf : P.funcs[f]? = some fn)(hb : fn.body.isSome = true)(hN : fn.ntmps = N)(hl : yy args.length N = true)(h : ∀(w0 : World) (a : Act) (w : World), H N w0 noX ⟨enumL args 0, [], []⟩ a w → W P (zb9 fn) (RetOk P fn w0 r arrs) (RetOk P fn w0 r arrs) [] a w) : Fn P f args r arrs := by
 intro w vals hgh hvl hv;obtain⟨c,hc⟩:=YK.1 hb;have hcode:zb9 fn=c:=by simp[zb9,hc]
 refine(calls_of_wp (R := fun e w' => ∃v, e = .returned v ∧ Below w.heap.size w w' ∧ ResOk w' w.heap.size r arrs v) hf hc ?_);have hsz := oS hl;have hs : H N w noX ⟨enumL args 0, [], []⟩ { tmps := vals.toArray ++ YM (fn.ntmps - vals.toArray.size) undef, defers := [] } w := by
  refine⟨⟨fun _=>eiNil,fun _ _=>False⟩,⟨vbP,rfl,.refl _ _,fun t lv ht=>?_,fun i c hi=>by simp[St.fs,look] at hi,fun i j b hi=>by simpa[St.fs,look] using hi.ne,fun i hi=>by simp[St.fs,look] at hi,fun t lv id ht hm=>?_,fun i cells lv id hi=>by simp[St.fs,look] at hi,fun i wd cl sz n rows k id hi=>by simp[St.fs,look] at hi,fun b o hb=>(by cases hb),fun b (hb:False)=>hb.elim,fun i ei hp=>(by cases hp),fun i hi=>(by simp[St.fs,memU,oZ hi]),yS _,hgh,fun b (hb:False)=>hb.elim⟩⟩;all_goals (simp only[St.fs,zif] at ht;have hlt:t<args.length:=vbY;have hget:vals[t]?=some (vals[t]' vbX):=oj vbX;have hrep:=hv t lv _ ht hget w.heap.size)
  ·have e : (vals.toArray ++ YM (fn.ntmps - vals.toArray.size) undef).getD t undef = vals[t]' vbX := (by simp [Array.getElem?_append, show t < vals.length by omega]);rw [e];refine .c _ _ (hrep.keep (ou _) (fun _ _ _ => rfl) (fun b hb => ?_) (ou _));rcases hb with hb | ⟨i, hi⟩
   ·exact .inl hb
   exact absurd rfl hi.ne
  exact absurd hm (hrep.noMent id)
 have:=h w _ w hs;rw[hcode] at this;refine wp_mono this fun e a' w' q=>?_;cases e with
 |normal =>obtain⟨q1,v,q2,q3,q4⟩:=q;exact⟨q1,v,q2,v,rfl,q3,q4⟩
 |ret =>obtain⟨q1,v,q2,q3,q4⟩:=q;exact⟨q1,v,q2,v,rfl,q3,q4⟩
 |exit id =>exact q.elim
 |goto l =>exact q.elim
 |panic ch =>exact q.elim
 |outgrown =>exact q.elim

def retLM(P : Program)(fn : Func)(n : Nat)(s : St)(g : List (Nat × Option Nat))(r : LV)(rbl : List (Nat × BC)) : Option (List Prop) :=
  match resLs P (look s.slots) (look s.blks) fn.results.toList with
  |some (l, p) =>
    let T : St := ⟨[], rbl, rbl.map (·.1)⟩
    match zgm g (fzOf (imgs g T.blks) (look s.blks)) (look s.blks) T.blks,cmp g (fzOf (imgs g T.blks) (look s.blks)) (oneOr l) r with
    |some q,some q'=>bif okT g T&&(zdw (mem T.used) r&&rbl.all fun x=>varIn (mem T.used) x.2&&Nat.blt x.1 (900000+n)) then some (p++(q++q')) else none
    |_,_=>none
  |none=>none

def zo2(P : Program)(fn : Func)(n : Nat)(w0 : World)(X0 : Fr)(r : LV)(rbl : List (Nat × BC)) : AP := fun a w =>
  ∃ v E, (results fn a.tmps).run P w = .ok v w ∧ (∃ N, Sat N w0 X0 (St.fs ⟨[], rbl, rbl.map (·.1)⟩) E a w) ∧ (RepV w w0.heap.size (Own (St.fs ⟨[], rbl, rbl.map (·.1)⟩) E X0) E r v ∧ ∀ id, Ment r id → look rbl id ≠ none) ∧
    (∀i cells lv id,look rbl i=some (.var cells)→lv∈cells→Ment lv id→look rbl id≠none)∧(∀i,look rbl i≠none→i<900000+n)∧∀i wd cl sz n rows,look rbl i=some (.nest wd cl sz n rows)→cl=true

theorem zgw {α : Type} : ∀ {l : List (Nat × α)} {i : Nat}, i ∈ l.map (·.1) → look l i ≠ none
  |x :: l, i, h => by
    simp only[look]
    cases hb:Nat.beq x.1 i with
    |true=>simp
    |false =>
      rcases oQ.1 h with rfl | h
      · simp_all
      · exact zgw h

theorem z1d{fn : Func}{n : Nat}{s : St}(hs : H N w0 X0 s a w)(g : List (Nat × Option Nat)){r : LV}{rbl : List (Nat × BC)}{vcs : List Prop}(h : retLM P fn n s g r rbl = some vcs)(ha : All vcs) : zo2 P fn n w0 X0 r rbl a w := by
 obtain⟨E,hs⟩:=hs;unfold retLM at h;split at h
 ·rename_i l p h1;simp only at h;split at h
  ·rename_i q q' h2 h3;obtain ⟨hc, h⟩ := zaj h;subst h;obtain ⟨a1, ha⟩ := All.append.1 ha;obtain ⟨a2, a3⟩ := All.append.1 ha;simp only [oc] at hc;obtain ⟨c1, c2, c3⟩ := hc;obtain ⟨vs, k1, k2, k3⟩ := zjt hs h1 a1;obtain ⟨d1, d2, d3⟩ := zvd (T := ⟨[], rbl, rbl.map (·.1)⟩) c1 rfl h2 trivial a2 hs;have hr := zd0 hs d2 d3 h3 a3 (zn6 k2 k3);refine ⟨_, envG g E, zjs k1, ⟨N, d1⟩, ⟨hr, fun id hm => zgw (mem_iff.1 (zbx hm c2))⟩, fun i cells lv id hi hl hm => ?_, fun i hi => ?_, fun i wd cl sz m rows hi => zog h2 a2 (zbl hi)⟩
   ·have := o0.1 c3 _ (zbl hi);simp only [oc] at this;exact zgw (mem_iff.1 (zbx hm (zbk this.1 lv hl)))
   obtain⟨c,hc⟩:=oN.1 hi;have:=o0.1 c3 _ (zbl hc);simp_all
  cases h
 cases h

theorem zc4(bl:List BC):∀i,look (enumB bl 900000) i=preB bl i:=by intro i;rw[zig];unfold preB;simp_all

open Classical in
theorem FnM.intro{f : FuncId}{fn : Func}{args : List LV}{bl : List BC}{r : LV}{rbl : List (Nat × BC)}(N : Nat)(hf : P.funcs[f]? = some fn)(hb : fn.body.isSome = true)(hN : fn.ntmps = N)(hl : yy args.length N = true)(h : ∀(w0 : World) (X0 : Fr) (a : Act) (w : World), H N w0 X0 ⟨enumL args 0, enumB bl 900000, []⟩ a w → W P (zb9 fn) (zo2 P fn bl.length w0 X0 r rbl) (zo2 P fn bl.length w0 X0 r rbl) [] a w) : FnM P f args bl r rbl := by
 intro w0 w xo vals E hgh hvl hbe hxo hxg hv hbk;obtain⟨c,hc⟩:=YK.1 hb;have hcode:zb9 fn=c:=by simp[zb9,hc]
 refine calls_of_wp hf hc ?_;have hsz:=oS hl
 let X0 : Fr := ⟨fun b => if b < w.heap.size ∧ ∀ i, ¬ OwnAt (preB bl) E i b then w.heap[b]? else none, xo, fun i => if preB bl i ≠ none then some (E i) else none, fun i hi => by
   unfold preB
   cases hb:yy 900000 i with
   |true=>have:=oS hb;omega
   |false=>simp,w.heap.size⟩
 have hlf : (St.fs ⟨enumL args 0, enumB bl 900000, []⟩).blk = preB bl := funext (zc4 bl);have hown : ∀E', (∀b, Own (St.fs ⟨enumL args 0, enumB bl 900000, []⟩) E' X0 b → OwnB xo (preB bl) E' b) := fun E' b hb => by
  rcases hb with hb | ⟨i,hi⟩
  ·exact .inl hb
  exact .inr ⟨i,by rw[←hlf];exact hi⟩
 have hs : H N w0 X0 ⟨enumL args 0, enumB bl 900000, []⟩ { tmps := vals.toArray ++ YM (fn.ntmps - vals.toArray.size) undef, defers := [] } w := by
  refine ⟨E, ⟨by simp; omega, rfl, hbe, fun t lv ht => ?_, fun i c hi => ?_, fun i j b hi hj => ?_, fun i hi => ?_, fun t lv id ht hm => ?_, fun i cells lv id hi hl hm => ?_, fun i wd cl sz n rows k id hi hk hid => (by
    have hi':preB bl i=some (.nest wd cl sz n rows):=by rw[←zc4];exact hi
    obtain⟨ek9,hs9,_⟩:=hbk.ok i _ hi'
    exact absurd hid (hs9.cl (hbk.out i wd cl sz n rows hi') k id hk)),fun b o hb=>?_,fun b hb=>?_,fun i ei hp hi=>?_,fun i hi=>?_,ou _,hgh,hxg⟩⟩
  case refine_1 | refine_5 =>
    simp only[St.fs,zif,yS,if_true,Nat.sub_zero] at ht
    have hlt : t < args.length := by
      rcases oY t args.length with h' | h'
      · exact h'
      · rw [o5 h'] at ht;cases ht
    have hget:vals[t]?=some (vals[t]' vbX):=oj vbX
    have hrep:=hv t lv _ ht hget
    first
      | (have e : (vals.toArray ++ YM (fn.ntmps - vals.toArray.size) undef).getD t undef = vals[t]' vbX := by
          simp[Array.getElem?_append,show t<vals.length by omega]
         rw[e]
         exact hrep.1.keep (ou _) (fun _ _ _=>rfl) (fun b hb=>.inl (hown E b hb)) (fun _ _=>rfl))
      | (have h9 := hrep.2 id hm
         have : yy 900000 id = true := by
          unfold preB at h9
          cases hb:yy 900000 id with
          |true=>rfl
          |false=>rw[hb] at h9;exact absurd rfl h9
         simp[St.fs,memU,this])
  ·have hi' : preB bl i = some c := (by rw [← zc4]; exact hi);exact (hbk.ok i c hi').sub (hown E)
  ·exact hbk.inj i j b (by rw [← hlf]; exact hi) (by rw [← hlf]; exact hj)
  ·have h9 : preB bl i ≠ none := (by rw [← zc4]; exact hi);have : yy 900000 i = true := by
    unfold preB at h9;cases hb:yy 900000 i with
    |true =>rfl
    |false =>rw[hb] at h9;exact absurd rfl h9
   simp[St.fs,memU,this]
  ·have h9 := hbk.ment i cells lv id (by rw [← zc4]; exact hi) hl hm;have : yy 900000 id = true := by
    unfold preB at h9;cases hb:yy 900000 id with
    |true =>rfl
    |false =>rw[hb] at h9;exact absurd rfl h9
   simp[St.fs,memU,this]
  ·simp only [X0] at hb;split at hb
   ·rename_i hcc;exact ⟨hb, fun i hi => hcc.2 i (by rw [← hlf]; exact hi)⟩
   cases hb
  ·obtain ⟨h1, h2⟩ := hxo b hb;refine ⟨w.heap[b]'h1, ?_⟩;simp only [X0];rw [if_pos ⟨h1, h2⟩, oL h1]
  ·simp only [X0] at hp;split at hp
   ·cases hp; rfl
   cases hp
  simp[St.fs,memU,oZ hi]
 have := h w0 X0 _ w hs;rw[hcode] at this;have fin : ∀a' w', zo2 P fn bl.length w0 X0 r rbl a' w' → a'.defers = [] ∧ ∃v, (results fn a'.tmps).run P w' = .ok v w' ∧ ∃v' E', Ending.returned v = Ending.returned v' ∧ Below w0.heap.size w0 w' ∧ w.heap.size ≤ w'.heap.size ∧ (∀b, b < w.heap.size → (∀i, ¬OwnAt (preB bl) E i b) → w'.heap[b]? = w.heap[b]?) ∧ (∀i, 900000 ≤ i → look rbl i ≠ none → E' i = E i ∧ preB bl i ≠ none) ∧ (∀i b, OwnAt (look rbl) E' i b → w.heap.size ≤ b ∨ ∃j, OwnAt (preB bl) E j b) ∧ (RepV w' w0.heap.size (OwnB xo (look rbl) E') E' r v' ∧ ∀id, Ment r id → look rbl id ≠ none) ∧ BlksOk w' w0.heap.size xo E' (look rbl) := by
  intro a' w' ⟨v, E', q1, ⟨N', q2⟩, q3, q4, q5, q6⟩;have hO : ∀ b, OwnB xo (look rbl) E' b ↔ Own (St.fs ⟨[], rbl, rbl.map (·.1)⟩) E' X0 b := fun b => Iff.rfl;refine ⟨q2.defers, v, q1, v, E', rfl, q2.below, q2.szf, fun b hb hno => ?_, fun i h9 hi => ?_, fun i b hi => ?_, q3, q2.blks, q2.injA, q4, q6⟩
  ·have e : X0.blk b = some (w.heap[b]'hb) := (by simp only [X0];rw [if_pos ⟨hb, hno⟩, oL hb]);rw [(q2.base b _ e).1, oL hb]
  ·have hp : preB bl i ≠ none := (by have := q5 i hi;unfold preB;rw [oZ h9];simp only [oC];rw [oj vbX];simp);exact ⟨q2.pin i (E i) (by simp only [X0]; rw [if_pos hp]) hi, hp⟩
  rcases oY b w.heap.size with hlt | hge
  ·right;by_cases hno : ∀ j, ¬ OwnAt (preB bl) E j b
   ·have e : X0.blk b = some (w.heap[b]'hlt) := (by simp only [X0];rw [if_pos ⟨hlt, hno⟩, oL hlt]);exact absurd hi ((q2.baseA b _ e).2 i)
   apply Classical.byContradiction;intro hcon;exact hno fun j hj=>hcon ⟨j,hj⟩
  exact .inl hge
 refine wp_mono this fun e a' w' q=>?_;cases e with
 |normal =>exact fin a' w' q
 |ret =>exact fin a' w' q
 |exit id =>exact q.elim
 |goto l =>exact q.elim
 |panic ch =>exact q.elim
 |outgrown =>exact q.elim
end
end Go.Lite

namespace Go.Lite
open Go Go.RowKit

def keepS(ts is : List Nat)(s : St) : St :=
  ⟨ts.filterMap fun t=>(look s.slots t).map fun c=>(t,c),is.filterMap fun t=>(look s.blks t).map fun c=>(t,c),s.used⟩

section
variable {P:Program} {c:Code} {n r:AP} {xs:List (Nat×AP)} {a:Act} {w:World} {N:Nat} {w0:World} {X0:Fr} {s:St}

theorem H.keep(hs:H N w0 X0 s a w)(ts is:List Nat):H N w0 X0 (keepS ts is s) a w:=by obtain⟨E,hs⟩:=hs;exact⟨E,hs.weaken _ (fun t lv h=>zcj _ _ t lv h) (fun i c h=>zcj _ _ i c h) fun i h=>h⟩

end
end Go.Lite

namespace Go.Lite
open Go Go.RowKit

def cInt(k:IntKind)(x:Int):List LV:=[.int k x]
def cBool(x:Bool):List LV:=[.bool x]
def cStr(x:List UInt8):List LV:=[.str x]
def rowOf{α:Type}[Inhabited α](f:α→List LV)(l:List α):Nat→List LV:=fun i=>f (l.getD i default)
def cSl{α:Type}[Inhabited α](fr:Bool)(sz:Nat)(f:α→List LV)(x:List α):List LV:=[.ro fr sz x.length (rowOf f x)]
end Go.Lite

namespace Go.Lite
open Go Go.RowKit

def Le{α:Type}(f g:Nat→Option α):Prop:=∀i x,f i=some x→g i=some x

section
variable {P:Program} {sl sl':Nat→Option LV} {blk blk':Nat→Option BC}

theorem zoh{α:Type}{x:Option α}{y:α}(h:x=some y):x.isSome=true:=by rw[h];rfl
theorem zas{α : Type}{x y : Option α}(h : ∀r, x = some r → y = some r)(hx : x.isSome = true) : y = x := by
 cases x with
 |none =>cases hx
 |some r =>exact h r rfl

theorem zdz(hs : Le sl sl'){x : Operand}{r : LV × List Prop}(h : ev sl x = some r) : ev sl' x = some r := by
 cases x with
 | tmp t =>simp only[ev,oq] at h ⊢;obtain⟨v,h1,h2⟩:=h;exact⟨v,hs t v h1,h2⟩
 |_ =>exact h
theorem zjf(hs : Le sl sl') : ∀{xs : List Operand} {r : List LV × List Prop}, evs sl xs = some r → evs sl' xs = some r
  |[],r,h=>h
  |x :: xs, r, h => by
    simp only[evs] at h ⊢
    split at h
    · rename_i h1 h2
      rw[zdz hs h1,zjf hs h2];exact h
    · cases h
theorem zea(hs : Le sl sl') : ∀{xs : List (Nat × Operand)} {r : List (Nat × List LV) × List Prop}, za9 sl xs = some r → za9 sl' xs = some r
  |[],r,h=>h
  |x :: xs, r, h => by
    simp only[za9] at h ⊢
    split at h
    · rename_i h1 h2
      rw[zdz hs h1,zea hs h2];exact h
    · cases h
theorem zn4(hs : Le sl sl'){d : Nat}{x : Option Operand}{r : Int × List Prop}(h : optN sl d x = some r) : optN sl' d x = some r := by
 cases x with
 |none =>exact h
 |some x =>
  simp only[optN] at h ⊢;split at h
  ·rename_i h1;rw [zdz hs h1]; exact h
  cases h
theorem zvc(hb:Le blk blk'){T:TypeId}{x:LV}{n:Nat}(h:lenL P T blk x=some n):lenL P T blk' x=some n:=by have e3:∀i,(blk i).isSome=true→blk' i=blk i:=fun x hx=>zas (fun r hr=>hb x r hr) hx;unfold lenL at h ⊢;grind
mutual
theorem zkm{kv kv' : Nat → Nat → Option LV}(hk : ∀id off x, kv id off = some x → kv' id off = some x)(hb : Le blk blk') : ∀{v x : LV}, zav kv blk v = some x → zav kv' blk' v = some x
  |.agg l, x, h => by
    simp only[zav,oq] at h ⊢
    obtain⟨y,h1,h2⟩:=h
    exact⟨y,zcv hk hb h1,h2⟩
  |.tup l, x, h => by
    simp only[zav,oq] at h ⊢
    obtain⟨y,h1,h2⟩:=h
    exact⟨y,zcv hk hb h1,h2⟩
  |.clo f l, x, h => by
    simp only[zav,oq] at h ⊢
    obtain⟨y,h1,h2⟩:=h
    exact⟨y,zcv hk hb h1,h2⟩
  |.own id, x, h => by
    simp only[zav] at h ⊢
    split at h
    · rename_i h1;rw [hb _ _ h1];exact h
    · rename_i h1;rw [hb _ _ h1];exact h
    · rename_i h0 h1
      rw[hb _ _ h1]
      split
      · rename_i e;cases e
      · rename_i e;cases e;exact (h0 rfl).elim
      · rename_i e;cases e;exact h
      · rename_i e;exact (e _ _ _ _ _ rfl).elim
    · cases h
  | .vp id off,x,h=>by simp only[zav] at h ⊢;exact hk _ _ _ h
  |.ap _ _ _ _,x,h=>by simp[zav] at h
  |.mp id, x, h => by
    simp only[zav] at h ⊢
    split at h
    · rename_i h1;rw [hb _ _ h1];exact h
    · cases h
  |.rm _ _,x,h=>by simpa only[zav] using h
  |.whn _ _,x,h=>by simp[zav] at h
  |.k _ _,x,h=>by simpa only[zav] using h
  |.er _,x,h=>by simpa only[zav] using h
  |.fv,x,h=>by simpa only[zav] using h
  |.any,x,h=>by simpa only[zav] using h
  |.ifc t v, x, h => by
    simp only[zav,oq] at h ⊢
    obtain⟨y,h1,h2⟩:=h
    exact⟨y,zkm hk hb h1,h2⟩
  |.ro _ sz n row,x,h=>by simpa only[zav] using h
  |.ep row off,x,h=>by simpa only[zav] using h
  |.int k n,x,h=>by simpa only[zav] using h
  |.bool b,x,h=>by simpa only[zav] using h
  |.str s,x,h=>by simpa only[zav] using h
  |.nilS,x,h=>by simpa only[zav] using h
  |.nilM,x,h=>by simpa only[zav] using h
  |.nilP,x,h=>by simpa only[zav] using h
  |.fn f,x,h=>by simpa only[zav] using h
theorem zcv{kv kv' : Nat → Nat → Option LV}(hk : ∀id off x, kv id off = some x → kv' id off = some x)(hb : Le blk blk') : ∀{v x : List LV}, zc8 kv blk v = some x → zc8 kv' blk' v = some x
  |[],x,h=>by simpa only[zc8] using h
  |v :: r, x, h => by
    simp only[zc8] at h ⊢
    split at h
    · rename_i h1 h2
      rw[zkm hk hb h1,zcv hk hb h2];exact h
    · cases h
end
theorem zrh(hb : Le blk blk') : ∀(n id off : Nat) (x : LV), kvN blk n id off = some x → kvN blk' n id off = some x
  |0,id,off,x,h=>by cases h
  |n + 1, id, off, x, h => by
    simp only[kvN] at h ⊢
    split at h
    · rename_i cs h1
      rw[hb _ _ h1]
      split at h
      · rename_i l h2
        simp only[zcv (zrh hb n) hb h2];exact h
      · cases h
    · cases h
theorem zpz(hb:Le blk blk'){v x:List LV}(h:zgn blk v=some x):zgn blk' v=some x:=zcv (zrh hb 3) hb h
theorem zrs(hb : Le blk blk'){v : LV}{r : LV × List Nat}(h : frz blk v = some r) : frz blk' v = some r := by
 cases v with
 |own id =>
  simp only[frz] at h ⊢;split at h
  ·rename_i h1; rw [hb _ _ h1]; exact h
  cases h
 |_ =>first|exact h|cases h
theorem zki(hb : Le blk blk') : ∀{v : List LV} {r : List LV × List Nat}, frzL blk v = some r → frzL blk' v = some r
  |[],r,h=>h
  |v :: l, r, h => by
    simp only[frzL] at h ⊢
    split at h
    · rename_i h1 h2
      rw[zrs hb h1,zki hb h2];exact h
    · cases h
theorem zoo(hb : Le blk blk') : ∀{v : List (Nat × List LV)} {r : List (Nat × List LV) × List Nat}, frzP blk v = some r → frzP blk' v = some r
  |[],r,h=>h
  |v :: l, r, h => by
    simp only[frzP] at h ⊢
    split at h
    · rename_i h1 h2
      rw[zki hb h1,zoo hb h2];exact h
    · cases h
theorem ztz(hb : Le blk blk'){v : LV}{r : Nat × Nat × (Nat → List LV) × List Nat}(h : arrOf blk v = some r) : arrOf blk' v = some r := by
 cases v with
 |own id =>
  simp only[arrOf] at h ⊢;split at h
  ·rename_i h1; rw [hb _ _ h1]; exact h
  cases h
 |_ =>first|exact h|cases h

theorem zn1(hb : Le blk blk'){ids : List Nat} : ∀{l : List Nat} {r : List BC}, preL blk ids l = some r → preL blk' ids l = some r
  |[],r,h=>by cases h;rfl
  |i :: l, r, h => by
    simp only[preL] at h ⊢
    split at h
    · rename_i c q h1 h2
      rw[hb _ _ h1,zn1 hb h2];exact h
    · cases h
theorem ztt(hb : Le blk blk'){g : Nat}{xs : List LV}{p : List Prop}{dst : Bool}{d : Nat}{ids : List Nat}{rbl : List (Nat × BC)}{r : LV}{D : MD}(h : callM P blk g xs p dst d ids rbl r = some D) : callM P blk' g xs p dst d ids rbl r = some D := by
 unfold callM at h ⊢;split at h
 ·rename_i bl fn h1 h2;rw [zn1 hb h1, h2]; exact h
 cases h
theorem zyv(hs:Le sl sl')(hb:Le blk blk'){o:Oper}{h:Hint}{r:LV×List Prop}(hv:vop P o sl blk h=some r):vop P o sl' blk' h=some r:=by have e1:∀x,(ev sl x).isSome=true→ev sl' x=ev sl x:=fun x hx=>zas (fun r hr=>zdz hs hr) hx;have e2:∀x,(evs sl x).isSome=true→evs sl' x=evs sl x:=fun x hx=>zas (fun r hr=>zjf hs hr) hx;have e3:∀i,(blk i).isSome=true→blk' i=blk i:=fun x hx=>zas (fun r hr=>hb x r hr) hx;unfold vop at hv ⊢;(repeat' split at hv);all_goals first | (cases hv;done) | (simp_all;done) | (rename_i q;rw[e1 _ (zoh q)];simp only[q];exact hv) | (rename_i q;rw[e1 _ (zoh q)];simp only[q,oq] at hv ⊢;obtain⟨n,h1,h2⟩:=hv;exact⟨n,zvc hb h1,h2⟩)

theorem zt1(hs : Le sl sl')(hb : Le blk blk'){o : Oper}{r : LV × List Prop}(hv : vop2 P o sl blk = some r) : vop2 P o sl' blk' = some r := by
 have e1:∀x,(ev sl x).isSome=true→ev sl' x=ev sl x:=fun x hx=>zas (fun r hr=>zdz hs hr) hx;have e2:∀x,(za9 sl x).isSome=true→za9 sl' x=za9 sl x:=fun x hx=>zas (fun r hr=>zea hs hr) hx;have e3:∀d x,(optN sl d x).isSome=true→optN sl' d x=optN sl d x:=fun d x hx=>zas (fun r hr=>zn4 hs hr) hx;have e4:∀i,(blk i).isSome=true→blk' i=blk i:=fun x hx=>zas (fun r hr=>hb x r hr) hx;unfold vop2 at hv ⊢;repeat' split at hv
 all_goals first
   |(cases hv;done)
   |(simp_all;done)
   | (rename_i g first caps _
      cases hb9:first.isEmpty with
      |true =>
        rw[hb9] at hv
        simp only[oC,oq] at hv ⊢
        obtain⟨x,h1,h2⟩:=hv
        exact⟨x,zjf hs h1,h2⟩
      |false=>rw[hb9] at hv;cases hv)
   | (simp only [oq] at hv ⊢
      obtain⟨x,h1,h2⟩:=hv
      exact⟨x,zdz hs h1,h2⟩)

theorem zj9(hs:Le sl sl')(hb:Le blk blk'){o:Oper}{h:Hint}{r:MD}(hv:mop0 P o sl blk h=some r):mop0 P o sl' blk' h=some r:=by have e1:∀x,(ev sl x).isSome=true→ev sl' x=ev sl x:=fun x hx=>zas (fun r hr=>zdz hs hr) hx;have e2:∀x,(evs sl x).isSome=true→evs sl' x=evs sl x:=fun x hx=>zas (fun r hr=>zjf hs hr) hx;have e3:∀i,(blk i).isSome=true→blk' i=blk i:=fun x hx=>zas (fun r hr=>hb x r hr) hx;have e4:∀x,(za9 sl x).isSome=true→za9 sl' x=za9 sl x:=fun x hx=>zas (fun r hr=>zea hs hr) hx;have e5:∀d x,(optN sl d x).isSome=true→optN sl' d x=optN sl d x:=fun d x hx=>zas (fun r hr=>zn4 hs hr) hx;have e6:∀x,(frzL blk x).isSome=true→frzL blk' x=frzL blk x:=fun x hx=>zas (fun r hr=>zki hb hr) hx;have e7:∀x,(frzP blk x).isSome=true→frzP blk' x=frzP blk x:=fun x hx=>zas (fun r hr=>zoo hb hr) hx;have e8:∀x,(arrOf blk x).isSome=true→arrOf blk' x=arrOf blk x:=fun x hx=>zas (fun r hr=>ztz hb hr) hx;have e10:∀g xs p dst d ids rbl r,(callM P blk g xs p dst d ids rbl r).isSome=true→callM P blk' g xs p dst d ids rbl r=callM P blk g xs p dst d ids rbl r:=fun g xs p dst d ids rbl r hx=>zas (fun q hq=>ztt hb hq) hx;have e9:∀x,(zgn blk x).isSome=true→zgn blk' x=zgn blk x:=fun x hx=>zas (fun r hr=>zpz hb hr) hx;unfold mop0 at hv ⊢;(repeat' split at hv);all_goals first | (cases hv;done) | (simp_all;done) | skip

theorem zz0(op:BinOp)(wr:Bool)(id:Nat)(y:LV):binL op wr (.own id) y=none:=by cases y<;>rfl
theorem zz3(P:Program)(op:BinOp)(T:TypeId)(id:Nat)(y:LV):binB P op T (.own id) y=none:=by unfold binB;split<;>first|rfl|contradiction
theorem zzx(P:Program)(op:BinOp)(T:TypeId)(id:Nat)(y:Bool):binN P op T (.own id) y=none:=by unfold binN;split<;>first|rfl|contradiction
theorem zz1(op:BinOp)(wr:Bool)(y:LV):binL op wr .nilS y=none:=by cases y<;>rfl
theorem zz4(P:Program)(op:BinOp)(T:TypeId)(y:LV):binB P op T .nilS y=none:=by unfold binB;split<;>first|rfl|contradiction
theorem zzy(P:Program)(op:BinOp)(T:TypeId)(y:Bool):binN P op T .nilS y=none:=by unfold binN;split<;>first|rfl|contradiction
theorem zt2(hs:Le sl sl'){o:Oper}{h:Hint}{r:LV×List Prop}(hv:vop2 P o sl blk=some r):vop P o sl' blk' h=none:=by have e1:∀x q,ev sl x=some q→ev sl' x=some q:=fun x q hx=>zdz hs hx;unfold vop2 at hv;(repeat' split at hv);all_goals first|(cases hv;done)|(simp_all [vop];done)|(simp only[vop, *,e1 _ _ ‹ev sl _=some (LV.own _,_)›,e1 _ _ ‹ev sl _=some (LV.nilS,_)›,zz0,zz3,zzx,Option.map_none];done)|(rename_i ha hb';simp only[vop, *,e1 _ _ ha,e1 _ _ hb',zz1,zz4,zzy,Option.map_none];done)
theorem znv(hs : Le sl sl')(hb : Le blk blk'){o : Oper}{h : Hint}{r : LV × List Prop}(hv : vopA P o sl blk h = some r) : vopA P o sl' blk' h = some r := by
 unfold vopA at hv ⊢;split at hv
 ·rename_i q hq;rw [zyv hs hb hq];exact hv
 split at hv
 ·rename_i q hq;rw [zt2 hs (blk' := blk') hq];simp only [zt1 hs hb hq];exact hv
 cases hv
theorem zob(hs:Le sl sl'){o:Oper}{h h':Hint}{r:MD}(hv:mop0 P o sl blk h=some r):vopA P o sl' blk' h'=none:=by have e1:∀x,(ev sl x).isSome=true→ev sl' x=ev sl x:=fun x hx=>zas (fun r hr=>zdz hs hr) hx;unfold mop0 at hv;(repeat' split at hv);all_goals first|(cases hv;done)|(simp_all [vopA,vop,vop2];done)|skip
theorem ztd(hb : Le blk blk'){v : LV}{r : Option Nat × NR × List Nat}(h : nrOne blk v = some r) : nrOne blk' v = some r := by
 unfold nrOne at h ⊢;split at h
 ·split at h
  ·rename_i h1; rw [hb _ _ h1]; exact h
  cases h
 exact h
theorem zlt(hb : Le blk blk'){sz : Nat} : ∀{cs : List LV} {r : List NR × List Nat}, nrsGo blk sz cs = some r → nrsGo blk' sz cs = some r ∧ szOfs blk' cs = szOfs blk cs
  |[],r,h=>⟨h,rfl⟩
  |v :: cs, r, h => by
    simp only[nrsGo] at h
    split at h
    · rename_i s x is xs js h1 h2
      obtain⟨k1,k2⟩:=zlt hb h2
      have k3:=ztd hb h1
      refine⟨by simp only[nrsGo,k3,k1];exact h,?_⟩
      simp only[szOfs,k3,h1,k2]
    · cases h
theorem ztb(hb:Le blk blk'){cs:List LV}{r:Nat×List NR×List Nat}(h:nrsOf blk cs=some r):nrsOf blk' cs=some r:=by unfold nrsOf at h ⊢;obtain⟨x,h1,h2⟩:=oq.1 h;obtain⟨k1,k2⟩:=zlt hb h1;grind
theorem zhm(hs:Le sl sl')(hb:Le blk blk'){o:Oper}{h:Hint}{r:MD}(hv:mopN P o sl blk h=some r):mopN P o sl' blk' h=some r:=by have e1:∀x,(ev sl x).isSome=true→ev sl' x=ev sl x:=fun x hx=>zas (fun r hr=>zdz hs hr) hx;have e3:∀i,(blk i).isSome=true→blk' i=blk i:=fun x hx=>zas (fun r hr=>hb x r hr) hx;have e4:∀x,(za9 sl x).isSome=true→za9 sl' x=za9 sl x:=fun x hx=>zas (fun r hr=>zea hs hr) hx;have e5:∀x,(nrsOf blk x).isSome=true→nrsOf blk' x=nrsOf blk x:=fun x hx=>zas (fun r hr=>ztb hb hr) hx;unfold mopN at hv ⊢;(repeat' split at hv);all_goals first | (cases hv;done) | (simp_all;done) | skip
theorem zu8(hs:Le sl sl')(hb:Le blk blk'){o:Oper}{h h':Hint}{r:MD}(hv:mopN P o sl blk h=some r):vopA P o sl' blk' h'=none:=by have e1:∀x,(ev sl x).isSome=true→ev sl' x=ev sl x:=fun x hx=>zas (fun r hr=>zdz hs hr) hx;have e3:∀i,(blk i).isSome=true→blk' i=blk i:=fun x hx=>zas (fun r hr=>hb x r hr) hx;unfold mopN at hv;(repeat' split at hv);all_goals first|(cases hv;done)|(simp_all [vopA,vop,vop2];done)|skip
theorem zrb(hs : Le sl sl')(hb : Le blk blk'){o : Oper}{h : Hint}{r : MD}(hv : mop P o sl blk h = some r) : mop P o sl' blk' h = some r := by
 unfold mop at hv ⊢;split at hv
 ·split at hv
  ·rename_i D0 h0;rw [zj9 hs hb h0]; exact hv
  cases hv
 ·split at hv
  ·rename_i D0 h0;rw [zj9 hs hb h0]; exact hv
  cases hv
 ·exact zhm hs hb hv
 ·exact zhm hs hb hv
 ·exact zhm hs hb hv
 ·exact zhm hs hb hv
 exact zj9 hs hb hv
theorem zrc(hs : Le sl sl')(hb : Le blk blk'){o : Oper}{h : Hint}{r : MD}(hv : mop P o sl blk h = some r) : vopA P o sl' blk' h = none := by
 rcases zfk hv with hv | ⟨wk,id,n,row,D0,hi0,e,h0,h1⟩ | hv
 ·exact zob hs hv
 ·exact zob hs h0
 exact zu8 hs hb hv
end
end Go.Lite

namespace Go.Lite
open Go Go.RowKit
open _root_.Array renaming getD_eq_getD_getElem?→yY
open _root_.Option renaming isSome_iff_ne_none→YI

def zke : Op → Bool
  |.call { callee:=.value _,.. }=>true
  |_=>false
def notM : Hint → Bool
  |.resM _ _ _ _=>false
  |_=>true
def flat1 : LV → Bool
  |.int _ _=>true
  |.bool _=>true
  |.str _=>true
  |_=>false
def frzA(blk : Nat → Option BC)(v : LV) : Option (LV × List Nat) :=
  match v with
  |.agg l=>bif l.all flat1 then some (.agg l,[]) else none
  |v=>frz blk v
theorem ztm{blk:Nat→Option BC}{v x:LV}{is:List Nat}(h:frzA blk v=some (x,is)):frz blk v=some (x,is)∨∃l,v=.agg l∧x=.agg l∧is=[]∧l.all flat1=true:=by unfold frzA at h;grind
theorem zz6{w : World}{B B' : Nat}{X X' : Nat → Prop}{E : Env}{l : List LV}{u : Value}(hl : l.all flat1 = true)(h : RepV w B X E (.agg l) u) : RepC w B' X' (.agg l) u := by
 obtain⟨vs,rfl,hs,hv⟩:=h.agg_inv;refine .agg l vs hs fun i lv v hi hv'=>?_;have h1:=hv i lv v hi hv';have h2:=o0.1 hl lv (oW hi);cases lv with
 |int k n =>rw[h1.int_inv];exact .int k n
 |bool b =>rw[h1.bool_inv];exact .bool b
 |str s =>rw[h1.str_inv];exact .str s
 |_ =>cases h2
def zhv(P : Program)(ops : List Oper)(sl : Nat → Option LV)(blk : Nat → Option BC)(o : Oper)(h : Hint) : Option MD :=
  match o.guard with
  | none => match vopA P o sl blk h with
    |some (lv,p)=>some ⟨some lv,noK,fun _=>none,[],p⟩
    |none=>mop P o sl blk h
  | some (j, want) => match zev ops sl j want with
    | some g => match vopA P o sl blk h with
      |some (lv,p)=>some ⟨some (.whn g lv),noK,fun _=>none,[],p.map fun t=>g=true→t⟩
      | none => bif zke o.op && notM h then match mop P o sl blk h with
        | some D => match D.dst with
          | some lv => match frzA D.ub lv with
            |some (x,is)=>bif is.all (fun i=>mem D.new i) then some ⟨some (.whn g x),noK,fun _=>none,D.new,D.vcs.map fun t=>g=true→t⟩ else none
            |none=>none
          |none=>none
        |none=>none
        else none
    |none=>none

section
variable {P:Program} {sl sl':Nat→Option LV} {blk blk':Nat→Option BC} {ops:List Oper} {o:Oper} {h:Hint}

theorem zg1(hs : Le sl sl'){j : Nat}{want g : Bool}(hg : zev ops sl j want = some g) : zev ops sl' j want = some g := by
 unfold zev at hg ⊢;split at hg
 ·split at hg
  ·split at hg
   ·rename_i h1; rw [hs _ _ h1]; exact hg
   ·rename_i h1; rw [hs _ _ h1]; exact hg
   cases hg
  cases hg
 cases hg

theorem zkl(hs : Le sl sl')(hb : Le blk blk'){D : MD}(hd : zhv P ops sl blk o h = some D) : zhv P ops sl' blk' o h = some D := by
 unfold zhv at hd ⊢;split at hd
 ·split at hd
  ·rename_i h1;rw [znv hs hb h1]; exact hd
  rename_i h1;rw[zrc (sl':=sl') (blk':=blk') hs hb hd];exact zrb hs hb hd
 split at hd
 ·rename_i g hg;rw [zg1 hs hg];split at hd
  ·rename_i h1;rw [znv hs hb h1]; exact hd
  obtain⟨hc,hd⟩:=zcl hd;split at hd
  ·rename_i D' hm;rw [zrc (sl' := sl') (blk' := blk') hs hb hm, zrb hs hb hm];grind
  cases hd
 cases hd

theorem zl0{D : MD}(hc : (zke o.op && notM h) = true)(hm : mop0 P o sl blk h = some D) : D.K = noK ∧ ∀i, D.ub i ≠ none → i ∈ D.new := by
 unfold mop0 at hm;split at hm;all_goals first|(rename_i ho _;rw[ho] at hc;cases hc;done)|skip
 ·rename_i f args tys d ho hd;split at hm
  ·split at hm
   ·obtain ⟨_, hm⟩ := zaj hm;subst hm;exact ⟨rfl, fun i hi => zmn hi⟩
   cases hm
  ·simp [notM] at hc
  ·simp [notM] at hc
  ·split at hm
   ·obtain ⟨_, hm⟩ := zaj hm;subst hm;exact ⟨rfl, fun i hi => zmn hi⟩
   cases hm
  cases hm
 ·split at hm
  ·simp [notM] at hc
  ·simp [notM] at hc
  cases hm
 cases hm

theorem z0j{D:MD}(hm:mop0 P o sl blk h=some D):∀i,D.K i=true→blk i≠none:=by unfold mop0 at hm;intro i hi;have kill:∀(l:List Nat),(∀k∈l,∃sz n row,blk k=some (.arr sz n row))→killL l i=true→blk i≠none:=fun l hl hk=>(by obtain⟨_,_,_,e⟩:=hl i (killL_mem.1 hk);rw[e];simp);(repeat' split at hm);all_goals first|(cases hm;done)|exact(zoz hm).2 i hi|(simp only[oq] at hm;obtain⟨cs,hcs,rfl⟩:=hm;cases hi;done)|(obtain⟨_,hm⟩:=zaj hm;subst hm;cases hi;done)|(cases hm;cases hi;done)|(have hf:=‹frzL blk _=some _›;obtain⟨_,hm⟩:=zaj hm;subst hm;exact kill _ (zhr (σ:=⟨sl,blk,fun _=>false⟩) hf) hi)|(have hf:=‹frzP blk _=some _›;obtain⟨_,hm⟩:=zaj hm;subst hm;exact kill _ (zfs (σ:=⟨sl,blk,fun _=>false⟩) hf) hi)|(have hf:=‹frzP blk _=some _›;obtain⟨_,hm⟩:=zcl hm;have hm:=zaj hm;obtain⟨_,hm⟩:=hm;subst hm;exact kill _ (zfs (σ:=⟨sl,blk,fun _=>false⟩) hf) hi)|(have hf:=‹frzP blk _=some _›;obtain⟨_,hm⟩:=zcl hm;cases hm;exact kill _ (zfs (σ:=⟨sl,blk,fun _=>false⟩) hf) hi)|(have hf:=‹blk _=some (.arr _ _ _)›;obtain⟨_,hm⟩:=zaj hm;subst hm;exact kill _ (fun k hk=>by have e:=oR.1 hk;subst e;exact⟨_,_,_,hf⟩) hi)


theorem ztj{D:MD}(hc:(zke o.op&&notM h)=true)(hm:mopN P o sl blk h=some D):D.K=noK∧∀i,D.ub i≠none→i∈D.new:=by unfold mopN at hm;split at hm;all_goals first|(rename_i ho _;rw[ho] at hc;cases hc;done)|(cases hm;done)
theorem zu5{D : MD}(hc : (zke o.op && notM h) = true)(hm : mop P o sl blk h = some D) : D.K = noK ∧ ∀i, D.ub i ≠ none → i ∈ D.new := by
 rcases zfk hm with hm | ⟨wk,id,n,row,D0,hi0,e,h0,h1⟩ | hm
 ·exact zl0 hc hm
 rotate_left
 ·exact ztj hc hm
 obtain⟨sz,n0,row0,hu,rfl⟩:=zi6 h1;obtain⟨k1,k2⟩:=zl0 (h:=hi0) (by rcases e with⟨rfl,rfl⟩ | ⟨rfl,rfl⟩<;>simpa[notM] using hc) h0;exact⟨k1,fun i hi=>k2 i (z0d hu hi)⟩
theorem mop_K{D : MD}(hm : mop P o sl blk h = some D) : ∀i, D.K i = true → blk i ≠ none := by
 rcases zfk hm with hm | ⟨wk,id,n,row,D0,hi0,e,h0,h1⟩ | hm
 ·exact z0j hm
 rotate_left
 ·exact (zrd hm).2
 obtain⟨sz,n0,row0,hu,rfl⟩:=zi6 h1;exact fun i hi=>z0j (D:=D0) h0 i hi
theorem zf8{D : MD}(hd : zhv P ops sl blk o h = some D) : (∀i, D.ub i ≠ none → i ∈ D.new ∨ blk i ≠ none) ∧ ∀i, D.K i = true → blk i ≠ none := by
 unfold zhv at hd;split at hd
 ·split at hd
  ·cases hd; exact ⟨fun i hi => absurd rfl hi, fun i hi => by cases hi⟩
  exact⟨zu4 hd,mop_K hd⟩
 split at hd
 ·split at hd
  ·cases hd; exact ⟨fun i hi => absurd rfl hi, fun i hi => by cases hi⟩
  obtain⟨hc,hd⟩:=zcl hd;repeat' split at hd
  all_goals first|(cases hd;done)|(obtain⟨_,hd⟩:=zaj hd;subst hd;exact⟨fun i hi=>absurd rfl hi,fun i hi=>by cases hi⟩)
 cases hd

def FS.dl(σ : FS)(d : Option Nat)(D : MD) : FS :=
  ⟨fun t=>if d=some t then D.dst else σ.slot t,(σ.upd D.K D.ub).blk,fun i=>mem D.new i||σ.used i⟩

variable {N:Nat} {w0:World} {X0:Fr} {σ:FS} {E:Env} {a:Act} {w:World}

theorem Sat.dlPut{D : MD}{v : Value}(g1 : Sat N w0 X0 (σ.upd D.K D.ub) E a w)(hdom : ∀i, (σ.upd D.K D.ub).used i = true → mem D.new i = true ∨ σ.used i = true){d : Option Nat}(hd : okDst N d = true)(hv : ∀lv, D.dst = some lv → RepV w w0.heap.size (Own (σ.upd D.K D.ub) E X0) E lv v ∧ ∀id, Ment lv id → (σ.upd D.K D.ub).used id = true) : Sat N w0 X0 (σ.dl d D) E (a.put d v) w := by
 have hu:∀i,(σ.upd D.K D.ub).used i=true→(σ.dl d D).used i=true:=fun i hi=>by simp only[FS.dl];grind
 cases d with
 |none =>refine g1.weaken _ (fun t lv ht=>?_) (fun i c hi=>hi) hu;assumption
 |some d =>
  cases hD:D.dst with
  |none =>
   refine⟨by simpa[Act.put] using g1.size,g1.defers,g1.below,fun t lv ht=>?_,g1.blks,g1.injA,fun i hi=>hu i (g1.live i hi),fun t lv id ht hm=>?_,fun i cells lv id hi hl hm=>hu id (g1.wfb i cells lv id hi hl hm),fun i wd cl sz n rows k id hi hk hr=>hu id (g1.wfn i wd cl sz n rows k id hi hk hr),g1.baseA,g1.bown,g1.pin,fun i hi=>hu i (g1.pu i hi),g1.szf,g1.gh,g1.xge⟩
   ·simp only [FS.dl, oo] at ht;by_cases e : d = t
    ·grind
    simp only[e] at ht;have e2:(a.put (some d) v).tmps.getD t undef=a.tmps.getD t undef:=(by simp[Act.put,Array.getElem?_setIfInBounds_ne e]);rw[e2];exact g1.slots t lv ht
   simp only[FS.dl,oo] at ht;by_cases e:d=t
   ·grind
   simp only[e] at ht;exact hu id (g1.wfs t lv id ht hm)
  |some lv =>
   obtain⟨k1,k2⟩:=hv lv hD;refine(g1.put (zes hd) k1 k2).weaken _ (fun t x hx=>?_) (fun i c hi=>hi) hu;simp only[FS.dl,oo] at hx;simp only[FS.put];by_cases e:d=t
   ·grind
   simp only[e] at hx;simp only[Ne.symm e];exact hx

theorem zkf{j : Nat}{want g : Bool}(hg : o.guard = some (j, want))(hgb : zev ops σ.slot j want = some g)(hs : Sat N w0 X0 σ E a w) : Region.wanted o (yielded ops.toArray a.tmps) = g := by
 unfold zev at hgb;split at hgb
 ·rename_i o' ho;split at hgb
  ·rename_i t ht;have hget : ∀ v, a.tmps.getD t undef = v → v ≠ undef → a.tmps[t]? = some v := (by intro v hv hne;rw [yY] at hv;grind);have hyt : ∀ b, a.tmps.getD t undef = .bool b → yielded ops.toArray a.tmps j = some b := vaQ;have hyf : a.tmps.getD t undef = undef → yielded ops.toArray a.tmps j = none := by
    intro hb;rw[yY] at hb;cases h1:a.tmps[t]? with
    |none =>simp[yielded,ho,ht,h1]
    |some u =>rw[h1] at hb;simp at hb;simp[yielded,ho,ht,h1,hb,undef]
   split at hgb
   ·rename_i b hb;cases hgb;have := (hs.slots t _ hb).bool_inv;rw [Region.wanted, hg];grind
   ·rename_i c b hb;cases hgb;have hr := hs.slots t _ hb;rw [Region.wanted, hg];cases c with
    |true =>
     have hb' : a.tmps.getD t undef = .bool b := by
      cases hr with
      |c _ _ h =>cases h
      |whn _ _ _ h1 _ =>exact(h1 rfl).bool_inv
     simp only[hyt b hb'];cases b<;>cases want<;>rfl
    |false =>
     have hb' : a.tmps.getD t undef = undef := by
      cases hr with
      |c _ _ h =>cases h
      |whn _ _ _ _ h2 =>exact h2 rfl
     grind
   cases hgb
  cases hgb
 cases hgb

theorem zgp(σ:FS):σ.upd noK (fun _=>none)=σ:=by cases σ;simp[FS.upd,noK]

theorem ziy{D : MD}(hs : Sat N w0 X0 σ E a w)(hd : zhv P ops σ.slot σ.blk o h = some D)(ha : All D.vcs)(hnew : ∀i ∈ D.new, σ.used i = false)(hN : okDst N o.dst = true)(K : Act → World → Prop)(Q : Exit → Act → World → Prop)(hk : ∀a' w' E', Sat N w0 X0 (σ.dl o.dst D) E' a' w' → K a' w') : if Region.wanted o (yielded ops.toArray a.tmps) then o.wp P a w K Q else K (a.put o.dst undef) w := by
 have hdm := zf8 hd;have hu : ∀i, (σ.upd D.K D.ub).used i = true → mem D.new i = true ∨ σ.used i = true := fun i hi => by
  simp only[FS.upd,oi,YI] at hi;rcases hi with hi | hi
  ·rcases hdm.1 i hi with h1 | h1
   ·exact .inl (mem_iff.2 h1)
   exact .inr (hs.live i h1)
  grind
 unfold zhv at hd;split at hd
 ·rename_i hg;have hw : Region.wanted o (yielded ops.toArray a.tmps) = true := by rw [Region.wanted, hg]
  rw[if_pos hw];split at hd
  ·rename_i lv p hv;cases hd;obtain ⟨v, h1, h2, h3⟩ := zfx hs hv ha;refine zbe h1 (hk _ _ E (Sat.dlPut (by rw [zgp]; exact hs) hu hN fun lv' e => ?_));cases e;rw [zgp]; exact ⟨h2, h3⟩
  refine zfi hs hd ha hnew _ _ fun v w' E' g1 _ g3=>?_;exact hk _ _ E' (Sat.dlPut g1 hu hN g3)
 rename_i j want hg;split at hd
 ·rename_i g hgb;have hw := zkf hg hgb hs;rw [hw];split at hd
  ·rename_i lv p hv;cases hd;cases g with
   |true =>obtain⟨v,h1,h2,h3⟩:=zfx hs hv (All.map_imp ha rfl);refine zbe h1 (hk _ _ E (Sat.dlPut (by rw[zgp];exact hs) hu hN fun lv' e=>?_));cases e;exact⟨.whn true lv v (fun _=>h2) (fun h=>vbU),fun id hm=>by cases hm with|whn _ _ _ _ hm=>exact h3 id hm⟩
   |false =>refine hk _ _ E (Sat.dlPut (by rw[zgp];exact hs) hu hN fun lv' e=>?_);cases e;exact⟨.whn false lv undef (fun h=>vbU) fun _=>rfl,fun id hm=>by cases hm with|whn _ _ _ hb _=>cases hb⟩
  obtain⟨hc,hd⟩:=zcl hd;split at hd
  ·rename_i D' hm;obtain ⟨q1, q2⟩ := zu5 hc hm;split at hd
   ·rename_i lv hlv;split at hd
    ·rename_i x is hfz;obtain ⟨his, hd⟩ := zaj hd;subst hd;cases g with
     |true =>
      refine zfi hs hm (All.map_imp ha rfl) hnew _ _ fun v w' E' g1 _ g3 => ?_;obtain⟨k1, k2⟩ := g3 lv hlv;have hbk : ∀i c, σ.blk i = some c → (σ.upd D'.K D'.ub).blk i = some c := by
       intro i c hi;have h1 : D'.ub i = none := by
        cases hub:D'.ub i with
        |none =>rfl
        |some c' =>have:=hnew i (q2 i (by rw[hub];simp));rw[hs.live i (by rw[hi];simp)] at this;cases this
       simp only[FS.upd,h1,q1,noK];grind
      have hsub : ∀b, Own σ E' X0 b → Own (σ.upd D'.K D'.ub) E' X0 b := Own.sub hbk;have hx : RepC w' w0.heap.size (Own σ E' X0) x v := by
       rcases ztm hfz with hfz | ⟨l9,e7,e8,e9,hl9⟩;case inr=>rw[e7] at k1;rw[e8];exact zz6 hl9 k1
       have hfz':frz (σ.upd D'.K D'.ub).blk lv=some (x,is):=zrs (fun i c hi=>by simp only[FS.upd,hi]) hfz;refine zm5 g1 hsub hfz' (fun k hk b hb hown=>?_) k1;have hkn:=mem_iff.1 (o0.1 his k hk);obtain⟨sz,n,row,hkl⟩:=zrt hfz' k hk;rcases hown with h0 | ⟨i,hi⟩
       ·exact g1.xne h0 (by rw [hkl]; simp) hb
       have:=g1.injA i k b (hi.sub hbk) (.inl ⟨by rw[hkl];simp,hb⟩);subst this;have h4:=hnew i hkn;rw[hs.live i hi.ne] at h4;cases h4
      have hq : Sat N w0 X0 ⟨σ.slot, σ.blk, fun i => mem D'.new i || σ.used i⟩ E' a w' := g1.weaken _ (fun t y hy => hy) hbk (fun i hi => by
        simp only[FS.upd,oi,YI] at hi
        simp only[oi]
        rcases hi with hi | hi
        · exact .inl (mem_iff.2 (q2 i hi))
        · exact .inr hi)
      have hq2 := Sat.dlPut (D := ⟨some (.whn true x), noK, fun _ => none, [], []⟩) (d := o.dst) (v := v) (by rw [zgp]; exact hq) (fun i hi => .inr (by simpa [FS.upd] using hi)) hN (fun lv' e => by
        cases e
        exact⟨.whn true x v (fun _=>.c _ _ hx) (fun h=>vbU),fun id hmm=>by cases hmm with | whn _ _ _ _ hmm=>exact absurd hmm (hx.noMent id)⟩)
      refine hk _ _ E' (hq2.weaken _ (fun t y hy=>hy) (fun i c hi=>by simpa[FS.dl,FS.upd,noK] using hi) fun i hi=>by simpa[FS.dl,mem,FS.upd] using hi)
     |false =>simp only[oT,if_false];refine hk _ _ E (Sat.dlPut (by rw[zgp];exact hs) hu hN fun lv' e=>?_);cases e;exact⟨.whn false x undef (fun h=>vbU) fun _=>rfl,fun id hm=>by cases hm with|whn _ _ _ hb _=>cases hb⟩
    cases hd
   cases hd
  cases hd
 cases hd
def delta(P : Program)(ops : List Oper)(sl : Nat → Option LV)(blk : Nat → Option BC)(o : Oper)(h : Hint) : Option MD :=
  match o.guard,h with
  | some (j, want), .gT h' => match zev ops sl j want, zhv P ops sl blk { o with guard := none } h' with
    |some g,some D=>some { D with vcs:=(g=true) :: D.vcs }
    |_,_=>none
  | some (j, want), .gF => match zev ops sl j want with
    |some g=>some ⟨some (.whn false (.bool true)),noK,fun _=>none,[],[g=false]⟩
    |none=>none
  |_,_=>zhv P ops sl blk o h
theorem zl7{sl sl' : Nat → Option LV}{blk blk' : Nat → Option BC}{ops : List Oper}{o : Oper}{h : Hint}(hs : Le sl sl')(hb : Le blk blk'){D : MD}(hd : delta P ops sl blk o h = some D) : delta P ops sl' blk' o h = some D := by
 unfold delta at hd ⊢;split at hd
 ·split at hd
  ·rename_i h1 h2;simp only [zg1 hs h1, zkl hs hb h2]; exact hd
  cases hd
 ·split at hd
  ·rename_i h1;simp only [zg1 hs h1]; exact hd
  cases hd
 exact zkl hs hb hd
theorem zov{sl : Nat → Option LV}{blk : Nat → Option BC}{ops : List Oper}{o : Oper}{h : Hint}{D : MD}(hd : delta P ops sl blk o h = some D) : (∀i, D.ub i ≠ none → i ∈ D.new ∨ blk i ≠ none) ∧ ∀i, D.K i = true → blk i ≠ none := by
 unfold delta at hd;split at hd
 ·split at hd
  ·rename_i h1 h2;cases hd;exact ⟨(zf8 h2).1, (zf8 h2).2⟩
  cases hd
 ·split at hd
  ·cases hd; exact ⟨fun i hi => absurd rfl hi, fun i hi => by cases hi⟩
  cases hd
 exact zf8 hd
theorem zpx{D : MD}(hs : Sat N w0 X0 σ E a w)(hd : delta P ops σ.slot σ.blk o h = some D)(ha : All D.vcs)(hnew : ∀i ∈ D.new, σ.used i = false)(hN : okDst N o.dst = true)(K : Act → World → Prop)(Q : Exit → Act → World → Prop)(hk : ∀a' w' E', Sat N w0 X0 (σ.dl o.dst D) E' a' w' → K a' w') : if Region.wanted o (yielded ops.toArray a.tmps) then o.wp P a w K Q else K (a.put o.dst undef) w := by
 have hdm := zov hd;have hu : ∀i, (σ.upd D.K D.ub).used i = true → mem D.new i = true ∨ σ.used i = true := fun i hi => by
  simp only[FS.upd,oi,YI] at hi;rcases hi with hi | hi
  ·rcases hdm.1 i hi with h1 | h1
   ·exact .inl (mem_iff.2 h1)
   exact .inr (hs.live i h1)
  grind
 unfold delta at hd;split at hd
 ·rename_i j want h' hg;split at hd
  ·rename_i g D0 h1 h2;cases hd;obtain ⟨ha1, ha2⟩ := ha;have hw := zkf hg h1 hs;rw [hw, ha1];have := ziy hs h2 ha2 hnew hN K Q hk;assumption
  cases hd
 ·rename_i j want hg;split at hd
  ·rename_i g h1;cases hd;obtain ⟨ha1, _⟩ := ha;have hw := zkf hg h1 hs;rw [hw, ha1];refine hk _ _ E (Sat.dlPut (by rw [zgp]; exact hs) hu hN fun lv' e => ?_);cases e;exact ⟨.whn false _ undef (fun h => vbU) fun _ => rfl, fun id hm => by cases hm with | whn _ _ _ hb _ => cases hb⟩
  cases hd
 exact ziy hs hd ha hnew hN K Q hk
end
end Go.Lite

namespace Go.Lite
open Go Go.RowKit
open _root_.Nat renaming add_zero→Yv, testBit→YS, lt_or_gt_of_ne→wh, zero_add→yA
open _root_.List renaming range→yI, countP_cons→Y1
open _root_.Array renaming replicate→YM

structure Rec where
  o:Oper
  h:Hint
  D:MD
  A:List Nat
  B:List Nat

def fR{α:Type}(l:List Nat)(f:Nat→Option α):Nat→Option α:=fun i=>bif mem l i then f i else none
def XF(S : Nat → Bool) : List Rec → Nat → FS → FS
  |[],_,σ=>σ
  |r :: l,i,σ=>XF S l (i+1) (bif S i then σ.dl r.o.dst r.D else σ)
def wB(r:Rec)(id:Nat):Bool:=(r.D.ub id).isSome||r.D.K id
def noDst(d : Option Nat)(l : List Nat) : Bool := match d with
  |some t=>!mem l t
  |none=>true
def neDst : Option Nat → Option Nat → Bool
  |some t,some u=>!Nat.beq t u
  |_,_=>true
def zo1(r s : Rec) : Bool :=
  noDst r.o.dst s.A&&(neDst r.o.dst s.o.dst&&(noDst s.o.dst r.A&&((r.D.new++r.B).all (fun id=>!wB r id||(!mem s.B id&&!wB s id))&&(s.D.new++s.B).all (fun id=>!wB s id||!mem r.B id))))

section
variable {S S':Nat→Bool}

theorem zl6{σ:FS}{d:Option Nat}{D:MD}{t:Nat}(h:d≠some t):(σ.dl d D).slot t=σ.slot t:=by simp[FS.dl,h]
theorem zou{σ:FS}{d:Option Nat}{r:Rec}{id:Nat}(h:wB r id=false):(σ.dl d r.D).blk id=σ.blk id:=by simp only[wB,Bool.or_eq_false_iff,Option.isSome_eq_false_iff,Option.isNone_iff_eq_none] at h;simp[FS.dl,FS.upd,h.1,h.2]

theorem zwe(t : Nat) : ∀(l : List Rec) (i : Nat) (σ σ' : FS), σ.slot t = σ'.slot t → (∀k r, l[k]? = some r → S (i + k) ≠ S' (i + k) → r.o.dst ≠ some t) → (XF S l i σ).slot t = (XF S' l i σ').slot t
  |[],i,σ,σ',h,_=>h
  |r :: l, i, σ, σ', h, hk => by
    refine zwe t l (i+1) _ _ ?_ fun k s hs hne=>hk (k+1) s (by simpa using hs) vba
    have h0:=hk 0 r rfl
    cases h1:S i<;>cases h2:S' i<;>simp only[oC,oB]
    · exact h
    · rw [zl6 (h0 (by simp [h1,h2]))];exact h
    · rw [zl6 (h0 (by simp [h1,h2]))];exact h
    · simp only [FS.dl];split
      · rfl
      · exact h
theorem z0y(id : Nat) : ∀(l : List Rec) (i : Nat) (σ σ' : FS), σ.blk id = σ'.blk id → (∀k r, l[k]? = some r → S (i + k) ≠ S' (i + k) → wB r id = false) → (XF S l i σ).blk id = (XF S' l i σ').blk id
  |[],i,σ,σ',h,_=>h
  |r :: l, i, σ, σ', h, hk => by
    refine z0y id l (i+1) _ _ ?_ fun k s hs hne=>hk (k+1) s (by simpa using hs) vba
    have h0:=hk 0 r rfl
    cases h1:S i<;>cases h2:S' i<;>simp only[oC,oB]
    · exact h
    · rw [zou (h0 (by simp [h1,h2]))];exact h
    · rw [zou (h0 (by simp [h1,h2]))];exact h
    · simp only [FS.dl,FS.upd]
      grind
theorem zwd(id : Nat) : ∀(l : List Rec) (i : Nat) (σ : FS), (XF S l i σ).used id = true → σ.used id = true ∨ ∃k r, l[k]? = some r ∧ S (i + k) = true ∧ id ∈ r.D.new
  |[],i,σ,h=>.inl h
  |r :: l, i, σ, h => by
    rcases zwd id l (i+1) _ h with h | ⟨k,s,h1,h2,h3⟩
    · cases hS:S i with
      |false=>rw[hS] at h;exact .inl h
      |true =>
        rw[hS] at h
        simp only[oC,FS.dl,oi] at h
        rcases h with h | h
        · exact .inr ⟨0,r,rfl,hS,mem_iff.1 h⟩
        · grind
    · exact .inr ⟨k+1,s,vbH,vba,h3⟩

theorem z17{σ : FS}{r s : Rec}(hd : neDst r.o.dst s.o.dst = true)(hw : ∀id, wB r id = true → wB s id = false) : (σ.dl r.o.dst r.D).dl s.o.dst s.D = (σ.dl s.o.dst s.D).dl r.o.dst r.D := by
 simp only[FS.dl,FS.mk.injEq];refine⟨?_,?_,?_⟩
 ·funext t;by_cases h1 : s.o.dst = some t
  ·by_cases h2 : r.o.dst = some t
   ·rw [h1, h2] at hd; simp [neDst] at hd
   grind
  grind
 ·funext id;simp only [FS.upd];cases h1 : wB r id with
  |true =>have h2:=hw id h1;simp only[wB] at h2;grind
  |false =>simp only[wB] at h1;grind
 grind

theorem XF_dl{r : Rec} : ∀(l : List Rec) (i : Nat) (σ : FS), (∀k s, l[k]? = some s → S (i + k) = true → neDst r.o.dst s.o.dst = true ∧ ∀id, wB r id = true → wB s id = false) → XF S l i (σ.dl r.o.dst r.D) = (XF S l i σ).dl r.o.dst r.D
  |[],i,σ,_=>rfl
  |s :: l, i, σ, h => by
    simp only[XF]
    have ih:=fun σ'=>XF_dl l (i+1) σ' fun k u hu hS=>h (k+1) u (by simpa using hu) vba
    cases hS:S i with
    |false=>simp only[oB];exact ih σ
    |true =>
      obtain⟨h1,h2⟩:=h 0 s rfl (by simpa using hS)
      rw[z17 h1 h2]
      grind

theorem z0z{r : Rec}(j : Nat) : ∀(l : List Rec) (i : Nat) (σ : FS) (m : Nat), l[m]? = some r → i + m = j → S j = false → (∀k, S' k = if k = j then true else S k) →
    (∀k s,l[k]?=some s→m<k→S (i+k)=true→neDst r.o.dst s.o.dst=true∧∀id,wB r id=true→wB s id=false)→XF S' l i σ=(XF S l i σ).dl r.o.dst r.D
  |[],i,σ,m,h,_,_,_,_=>by simp at h
  |s :: l, i, σ, 0, h, hj, hS, hS', hk => by
    simp at h
    subst h
    simp only[Yv] at hj
    subst hj
    simp only[XF,hS,hS' i]
    have e : ∀σ', XF S' l (i + 1) σ' = XF S l (i + 1) σ' := by
      have : ∀(l : List Rec) (n : Nat) (σ' : FS), i < n → XF S' l n σ' = XF S l n σ' := by
        intro l
        induction l with
        |nil=>intro n σ' _;rfl
        |cons x l ih =>
          intro n σ' hn
          simp only[XF]
          grind
      grind
    rw[e]
    exact XF_dl l (i+1) σ fun k u hu hSk=>hk (k+1) u (by simpa using hu) vbX vba
  |s :: l, i, σ, m + 1, h, hj, hS, hS', hk => by
    simp only[XF,hS' i,if_neg (show ¬i=j by omega)]
    exact z0z j l (i+1) _ m vbK vbX hS hS' fun k u hu hm hSk=>hk (k+1) u (by simpa using hu) vbX vba
end

def zna(M:List Nat)(m:Nat)(e:Edge):Nat:=bif Region.binds .any e then(m ||| (1 <<< e.on)) ||| M.getD e.on 0 else m
def zpe(M:List Nat)(o:Oper):Nat:=o.after.toList.foldl (zna M) 0
def masks : List Oper → List Nat → List Nat
  |[],M=>M
  |o :: r,M=>masks r (M++[zpe M o])
def okM(M : List Nat) : List Oper → Nat → Bool
  |[],_=>true
  |o :: r,j=>Nat.beq (M.getD j 0) (zpe M o)&&(o.after.toList.all (fun e=>!Region.binds .any e||Nat.blt e.on j)&&okM M r (j+1))
def zj6(r s:Rec):Bool:=r.D.new.all fun i=>!mem s.D.new i
def zq5(M : List Nat)(r : Rec)(i : Nat) : List Rec → Nat → Bool
  |[],_=>true
  |s :: l,j=>(YS (M.getD j 0) i||zo1 r s)&&(zj6 r s&&zq5 M r i l (j+1))
def zjv(M : List Nat) : List Rec → Nat → Bool
  |[],_=>true
  |r :: l,i=>zq5 M r i l (i+1)&&zjv M l (i+1)

mutual
def idsOf : LV → List Nat
  |.agg l=>zon l
  |.tup l=>zon l
  |.vp id _=>[id]
  |.own id=>[id]
  |.ap id _ _ _=>[id]
  |.mp id=>[id]
  |.whn _ v=>idsOf v
  |.k _ _=>[]
  |.er _=>[]
  |.fv=>[]
  |.any=>[]
  |.ifc _ v=>idsOf v
  |.int _ _=>[]
  |.bool _=>[]
  |.str _=>[]
  |.ro _ _ _ _=>[]
  |.ep _ _=>[]
  |.nilS=>[]
  |.nilM=>[]
  |.rm _ _=>[]
  |.nilP=>[]
  |.clo _ l=>zon l
  |.fn _=>[]
def zon : List LV → List Nat
  |[]=>[]
  |v :: r=>idsOf v++zon r
end
def zju(ops : List Oper)(o : Oper) : List Nat :=
  (o.op.operands.toList.filterMap fun | .tmp t=>some t | _=>none) ++
  (match o.guard with
   | some (g, _) => match ops[g]? with
     | some o' => match o'.dst with
       |some t=>[t]
       |none=>[]
     |none=>[]
   |none=>[])
def zhx(sl : Nat → Option LV) : List Nat → List Nat
  |[]=>[]
  | t :: r => match sl t with
    |some lv=>idsOf lv++zhx sl r
    |none=>zhx sl r
def reach(blk : Nat → Option BC) : Nat → List Nat → List Nat
  |0,l=>l
  | n + 1, l => l ++ reach blk n (l.flatMap fun i => match blk i with
    |some (.var cs)=>zon cs
    |_=>[])
def isMv : Op → Bool
  |.move _=>true
  |_=>false
def footB(s:St)(ops:List Oper)(o:Oper):List Nat:=bif isMv o.op then[] else bif zke o.op then reach (look s.blks) 3 (zhx (look s.slots) (zju ops o)) else zhx (look s.slots) (zju ops o)
def nextS(s : St)(d : Option Nat)(D : MD) : St :=
  ⟨match d, D.dst with
   |some d,some lv=>(d,lv) :: s.slots
   |_,_=>s.slots,zmw s D,D.new++s.used⟩
def dstOk : Option Nat → MD → Bool
  |some _,D=>D.dst.isSome
  |none,_=>true

def zr3(P : Program)(N : Nat)(ops : List Oper)(hints : List (Nat × Hint))(u0 : List Nat) : List Oper → Nat → St → Option (St × List Prop × List Rec)
  |[],_,s=>some (s,[],[])
  |o :: r, i, s =>
    match delta P ops (fR (zju ops o) (look s.slots)) (fR (footB s ops o) (look s.blks)) o ((look hints i).getD .no) with
    | some D => bif okDst N o.dst && (dstOk o.dst D && D.new.all (fun i => !memU u0 i)) then
        match zr3 P N ops hints u0 r (i+1) (nextS s o.dst D) with
        |some (s',p,rs)=>some (s',D.vcs++p,⟨o,(look hints i).getD .no,D,zju ops o,footB s ops o⟩ :: rs)
        |none=>none
      else none
    |none=>none
def zpw(P : Program)(N : Nat)(ops : List Oper)(hints : List (Nat × Hint))(i : Nat)(s : St) : Option (St × List Prop) :=
  match zr3 P N ops hints s.used ops i s with
  |some (s',p,rs)=>bif okM (masks ops []) ops 0&&zjv (masks ops []) rs 0 then some (s',p) else none
  |none=>none

theorem zrz{M : List Nat}{i : Nat} : ∀{l : List Edge} {m : Nat}, YS (l.foldl (zna M) m) i = true → YS m i = true ∨ ∃e ∈ l, Region.binds .any e = true ∧ (e.on = i ∨ YS (M.getD e.on 0) i = true)
  |[],m,h=>.inl h
  |e :: l, m, h => by
    rcases zrz (l:=l) h with h1 | ⟨e',h1,h2⟩
    · simp only [zna] at h1
      cases hb:Region.binds .any e with
      |false=>rw[hb] at h1;exact .inl h1
      |true =>
        rw[hb] at h1
        simp only[oC,Nat.testBit_or,oi] at h1
        rcases h1 with(h1 | h1) | h1
        · grind
        · refine .inr ⟨e,vbZ,hb,.inl ?_⟩
          rw[Nat.one_shiftLeft] at h1
          grind
        · grind
    · grind

theorem zpi{M : List Nat} : ∀{l : List Oper} {j0 : Nat}, okM M l j0 = true → ∀(k : Nat) o, l[k]? = some o → M.getD (j0 + k) 0 = zpe M o ∧ ∀e ∈ o.after, Region.binds .any e = true → e.on < j0 + k
  |[],j0,h,k,o,ho=>by simp at ho
  |x :: l, j0, h, k, o, ho => by
    simp only[okM,oc] at h
    cases k with
    |zero =>
      simp at ho
      subst ho
      refine⟨om h.1,fun e he hb=>?_⟩
      have:=o0.1 h.2.1 e (by simpa using he)
      simp_all
    |succ k =>
      have:=zpi h.2.2 k o (by simpa using ho)
      grind

theorem zlq{M : List Nat}{r : Rec}{i : Nat} : ∀{l : List Rec} {j0 : Nat}, zq5 M r i l j0 = true → ∀(k : Nat) s, l[k]? = some s → (YS (M.getD (j0 + k) 0) i = true ∨ zo1 r s = true) ∧ zj6 r s = true
  |[],j0,h,k,s,hs=>by simp at hs
  |x :: l, j0, h, k, s, hs => by
    simp only[zq5,oc,oi] at h
    cases k with
    |zero=>simp at hs;subst hs;exact⟨h.1,h.2.1⟩
    |succ k =>
      have:=zlq h.2.2 k s (by simpa using hs)
      grind
theorem zcq{M : List Nat} : ∀{l : List Rec} {i0 : Nat}, zjv M l i0 = true → ∀(i j : Nat) r s, l[i]? = some r → l[j]? = some s → i < j → (YS (M.getD (i0 + j) 0) (i0 + i) = true ∨ zo1 r s = true) ∧ zj6 r s = true
  |[],i0,h,i,j,r,s,hr,hs,hij=>by simp at hr
  |x :: l, i0, h, i, j, r, s, hr, hs, hij => by
    simp only[zjv,oc] at h
    cases j with
    |zero=>omega
    |succ j =>
      cases i with
      |zero =>
        have:=zlq h.1 j s (by simpa using hs)
        grind
      |succ i =>
        have:=zcq h.2 i j r s (by simpa using hr) (by simpa using hs) vbX
        grind

theorem fR_le{α : Type}{l : List Nat}{f g : Nat → Option α}(h : ∀i, i ∈ l → ∀x, f i = some x → g i = some x) : Le (fR l f) g := by
 intro i x hx;unfold fR at hx;cases hm:mem l i with
 |false =>rw[hm] at hx;cases hx
 |true =>rw[hm] at hx;exact h i (mem_iff.1 hm) x hx

section
variable {P:Program} {N:Nat} {ops:List Oper} {hints:List (Nat×Hint)} {u0:List Nat}

theorem z1n{s : St}{σ : FS}{d : Option Nat}{D : MD}(h1 : Le (look s.slots) σ.slot)(h2 : Le (look s.blks) σ.blk)(hd : dstOk d D = true) : Le (look (nextS s d D).slots) (σ.dl d D).slot ∧ Le (look (nextS s d D).blks) (σ.dl d D).blk := by
 constructor
 ·intro t x hx;cases d with
  |none =>simp only[nextS] at hx;simp only[FS.dl];exact h1 t x hx
  |some d =>
   cases hD:D.dst with
   |none =>simp[dstOk,hD] at hd
   |some lv =>
    simp only[nextS,hD,za2] at hx;simp only[FS.dl,oo];by_cases e:t=d
    ·grind
    simp only[e] at hx;simp only[Ne.symm e];exact h1 t x hx
 intro i c hc;have:=zie s D i c hc;simp only[FS.dl,FS.upd] at this ⊢;cases hu:D.ub i with
 |some c' =>rw[hu] at this;exact this
 |none =>
  rw[hu] at this;cases hK:D.K i with
  |true =>simp[hK] at this
  | false =>simp only[hK] at this ⊢;exact h2 i c this

theorem zkk : ∀{l : List Oper} {i : Nat} {s s' : St} {vcs : List Prop} {rs : List Rec} {σ : FS}, zr3 P N ops hints u0 l i s = some (s', vcs, rs) → All vcs → Le (look s.slots) σ.slot → Le (look s.blks) σ.blk → (∀j, σ.used j = true → memU s.used j = true) → ∀n0 : Nat,
    rs.length=l.length ∧
    (∀ (k : Nat) r, rs[k]? = some r → l[k]? = some r.o ∧ okDst N r.o.dst = true ∧ All r.D.vcs ∧ (∀ id ∈ r.D.new, memU u0 id = false) ∧
      delta P ops (fR r.A (XF (fun m=>decide (m<n0+k)) rs n0 σ).slot) (fR r.B (XF (fun m=>decide (m<n0+k)) rs n0 σ).blk) r.o r.h=some r.D) ∧
    Le (look s'.slots) (XF (fun _=>true) rs n0 σ).slot∧Le (look s'.blks) (XF (fun _=>true) rs n0 σ).blk∧∀j,(XF (fun _=>true) rs n0 σ).used j=true→memU s'.used j=true
  |[], i, s, s', vcs, rs, σ, h, ha, h1, h2, h3, n0 => by
    cases h
    exact⟨rfl,fun k r hr=>by simp at hr,h1,h2,h3⟩
  |o :: l, i, s, s', vcs, rs, σ, h, ha, h1, h2, h3, n0 => by
    simp only[zr3] at h
    split at h
    · rename_i D hD
      obtain⟨hc,h⟩:=zcl h
      simp only[oc] at hc
      split at h
      · rename_i s1 p1 rs1 hgo
        cases h
        obtain⟨a1,a2⟩:=All.append.1 ha
        obtain⟨n1,n2⟩:=z1n h1 h2 hc.2.1
        have hlast : ∀(l : List Rec) (n1 : Nat) (σ : FS) (m : Nat), m ≤ n1 → XF (fun k => decide (k < m)) l n1 σ = σ := by
          intro l
          induction l with
          |nil=>intro _ σ _ _;rfl
          |cons x l ih =>
            intro n1 σ m hm
            simp only[XF,show decide (n1<m)=false from oH vbX]
            exact ih _ _ _ vbX
        obtain ⟨q1, q2, q3⟩ := zkk (σ := σ.dl o.dst D) hgo a2 n1 n2 (fun j hj => by
          simp only[FS.dl,oi] at hj
          simp only[nextS,zgv,oi]
          exact hj.imp id (h3 j)) (n0+1)
        refine⟨by simp[q1],fun k r hr=>?_,?_⟩
        · cases k with
          |zero =>
            simp at hr
            subst hr
            refine⟨rfl,hc.1,a1,fun id hid=>by have:=o0.1 hc.2.2 id hid;simpa using this,?_⟩
            simp only[Yv]
            rw[hlast _ _ _ _ (ou _)]
            exact zl7 (fun t x hx => by
              unfold fR at hx ⊢
              cases hm:mem (zju ops o) t with
              |false=>rw[hm] at hx;cases hx
              |true=>rw[hm] at hx;exact h1 t x hx) (fun t x hx=>by
              unfold fR at hx ⊢
              cases hm:mem (footB s ops o) t with
              |false=>rw[hm] at hx;cases hx
              |true=>rw[hm] at hx;exact h2 t x hx) hD
          |succ k =>
            obtain⟨g1,g2,g3,g4,g5⟩:=q2 k r (by simpa using hr)
            simp only[XF]
            grind
        · assumption
      · cases h
    · cases h

def z0s : Code → Bool
  |.region _ _ d=>d
  |_=>false
def upto(l:Array Bool):Nat→Bool:=fun k=>l.getD k false

theorem z0m{α : Type}{l : List Nat}{f : Nat → Option α}{i : Nat}(h : fR l f i ≠ none) : i ∈ l := by
 unfold fR at h;cases hm:mem l i with
 |false =>rw[hm] at h;exact absurd rfl h
 |true =>exact mem_iff.1 hm

theorem zh4{r : Rec}{f : Nat → Option LV}{b : Nat → Option BC}(h : delta P ops (fR r.A f) (fR r.B b) r.o r.h = some r.D) : ∀id, wB r id = true → id ∈ r.D.new ++ r.B := by
 intro id hid;obtain⟨h1,h2⟩:=zov h;simp only[wB,oi,Option.isSome_iff_ne_none] at hid;rw[List.mem_append];rcases hid with hid | hid
 ·rcases h1 id hid with h | h
  ·grind
  exact .inr (z0m h)
 exact .inr (z0m (h2 id hid))

theorem ztg{d e : Option Nat}(h : neDst d e = true) : neDst e d = true := by
 cases d with
 |none =>cases e<;>rfl
 |some d =>
  cases e with
  |none =>rfl
  |some e =>
   simp only[neDst] at h ⊢;cases hb:Nat.beq e d with
   |false =>rfl
   |true =>simp_all
theorem zlv{d:Option Nat}{l:List Nat}(h:noDst d l=true):∀t∈l,d≠some t:=by intro t ht hd;subst hd;simp only[noDst,od] at h;rw[mem_iff.2 ht] at h;cases h

structure Ap(r s : Rec) : Prop where
  d1:∀t∈s.A,r.o.dst≠some t
  d2:∀t∈r.A,s.o.dst≠some t
  dd:neDst r.o.dst s.o.dst=true
  b1:∀id∈s.B,wB r id=false
  b2:∀id∈r.B,wB s id=false
  bb:∀id,wB r id=true→wB s id=false

theorem Ap.symm{r s : Rec}(h : Ap r s) : Ap s r :=
  ⟨h.d2, h.d1, ztg h.dd, h.b2, h.b1, fun id hid => by
    cases hr:wB r id with
    |false=>rfl
    |true=>have:=h.bb id hr;rw[hid] at this;cases this⟩

theorem ze5{r s : Rec}(h : zo1 r s = true)(hr : ∀id, wB r id = true → id ∈ r.D.new ++ r.B)(hs : ∀id, wB s id = true → id ∈ s.D.new ++ s.B) : Ap r s := by
 simp only[zo1,oc] at h;obtain⟨h1,h2,h3,h4,h5⟩:=h;have k4:∀id,wB r id=true→mem s.B id=false∧wB s id=false:=fun id hid=>by grind
 have k5:∀id,wB s id=true→mem r.B id=false:=fun id hid=>by grind
 refine⟨zlv h1,zlv h3,h2,fun id hid=>?_,fun id hid=>?_,fun id hid=>(k4 id hid).2⟩
 ·cases hw : wB r id with
  |false =>rfl
  |true =>have:=(k4 id hw).1;rw[mem_iff.2 hid] at this;cases this
 cases hw:wB s id with
 |false =>rfl
 |true =>have:=k5 id hw;rw[mem_iff.2 hid] at this;cases this

theorem zvq{l:Array Bool}{i:Nat}(h:l.getD i true=false):l.getD i false=false∧i<l.size:=vbY

variable {w0:World} {X0:Fr} {σ:FS} {rs:List Rec} {M:List Nat}

theorem zzr(hlen : rs.length = ops.length)(hM : okM M ops 0 = true)(hp : zjv M rs 0 = true)
    (hrec : ∀ (k : Nat) r, rs[k]? = some r → ops[k]? = some r.o ∧ okDst N r.o.dst = true ∧ All r.D.vcs ∧ (∀ id ∈ r.D.new, memU u0 id = false) ∧
      delta P ops (fR r.A (XF (fun m=>decide (m<k)) rs 0 σ).slot) (fR r.B (XF (fun m=>decide (m<k)) rs 0 σ).blk) r.o r.h=some r.D)
    (hu:∀id,σ.used id=true→memU u0 id=true) {Q:Exit→Act→World→Prop}
    (hq : ∀ a w E, Sat N w0 X0 (XF (fun _ => true) rs 0 σ) E a w → Q .normal a w) : ∀ (fuel : Nat) (listed : Array Bool) (a : Act) (w : World) (E : Env), listed.size = ops.length →
      (yI ops.length).countP (fun k=>!upto listed k)≤fuel →
      (∀i j,upto listed j=true→YS (M.getD j 0) i=true→upto listed i=true) →
      Sat N w0 X0 (XF (upto listed) rs 0 σ) E a w→wpAny P .any ops.toArray Q fuel listed a w:=by
  have hget:∀{k:Nat},k<ops.length→∃r,rs[k]?=some r:=fun {k} hk=>⟨rs[k]' vbX,oj vbX⟩
  have hAp : ∀(i j : Nat) (r s : Rec), rs[i]? = some r → rs[j]? = some s → i ≠ j → YS (M.getD j 0) i = true ∨ YS (M.getD i 0) j = true ∨ Ap r s := by
    intro i j r s hr hs hij
    have wr:=zh4 (hrec i r hr).2.2.2.2
    have ws:=zh4 (hrec j s hs).2.2.2.2
    rcases wh hij with hlt | hlt
    · have:=(zcq hp i j r s hr hs hlt).1
      simp only[yA] at this
      rcases this with h | h
      · grind
      · exact .inr (.inr (ze5 h wr ws))
    · have:=(zcq hp j i s r hs hr hlt).1
      simp only[yA] at this
      rcases this with h | h
      · grind
      · exact .inr (.inr (ze5 h ws wr).symm)
  have hNews : ∀(i j : Nat) (r s : Rec), rs[i]? = some r → rs[j]? = some s → i ≠ j → ∀id ∈ r.D.new, id ∉ s.D.new := by
    intro i j r s hr hs hij id h1 h2
    rcases wh hij with hlt | hlt
    · have:=o0.1 (zcq hp i j r s hr hs hlt).2 id h1
      rw[mem_iff.2 h2] at this;cases this
    · have:=o0.1 (zcq hp j i s r hs hr hlt).2 id h2
      rw[mem_iff.2 h1] at this;cases this
  have hdone : ∀listed : Array Bool, listed.size = ops.length → Region.ready .any ops.toArray listed = [] → ∀k, k < ops.length → upto listed k = true := by
    intro listed hsz hr k
    induction k using Nat.strongRecOn with
    |_ k ih =>
      intro hk
      cases hl:upto listed k with
      |true=>rfl
      |false =>
        have hmem : k ∈ Region.ready .any ops.toArray listed := by
          rw[mem_ready]
          have hk':k<listed.size:=vbX
          refine⟨by simp[upto,hk'] at hl ⊢;exact hl,ops[k]'hk,by simp[hk],fun e he hb=>?_⟩
          have:=(zpi hM k (ops[k]'hk) (oj hk)).2 e he hb
          exact ih e.on vbX vbX
        grind
  have hfin : ∀(listed : Array Bool) (a : Act) (w : World) (E : Env), listed.size = ops.length → Region.ready .any ops.toArray listed = [] → Sat N w0 X0 (XF (upto listed) rs 0 σ) E a w → Q .normal a w := by
    intro listed a w E hsz hr hs
    refine hq a w E ?_
    have : ∀(l : List Rec) (i : Nat) (σ : FS), (∀k, k < l.length → upto listed (i + k) = true) → XF (upto listed) l i σ = XF (fun _ => true) l i σ := by
      intro l
      induction l with
      |nil=>intro i σ _;rfl
      |cons x l ih =>
        intro i σ h
        have h0:=h 0 vbZ
        simp only[Yv] at h0
        simp only[XF,h0]
        exact ih _ _ fun k hk=>by rw[show i+1+k=i+(k+1) by omega];exact h (k+1) vbJ
    rw[←this rs 0 σ fun k hk=>by rw[yA];exact hdone listed hsz hr k vbX]
    exact hs
  intro fuel
  induction fuel with
  |zero =>
    intro listed a w E hsz hc hcl hs
    have hall : ∀k, k < ops.length → upto listed k = true := fun k hk => by
      have:=List.countP_eq_zero.1 (Nat.le_zero.1 hc) k (oV.2 hk)
      simpa using this
    have hr : Region.ready .any ops.toArray listed = [] := by
      cases h:Region.ready .any ops.toArray listed with
      |nil=>rfl
      |cons x l =>
        have hx:x∈Region.ready .any ops.toArray listed:=by rw[h];simp
        obtain⟨h1,o,h2,_⟩:=mem_ready.1 hx
        obtain⟨h3,h4⟩:=zvq h1
        have:=hall x vbX
        simp only[upto] at this
        rw[h3] at this;cases this
    exact⟨hr,hfin listed a w E hsz hr hs⟩
  |succ fuel ih =>
    intro listed a w E hsz hc hcl hs
    refine⟨fun hr=>hfin listed a w E hsz hr hs,fun i hi=>?_⟩
    obtain⟨hi1,o,hi2,hi3⟩:=mem_ready.1 hi
    obtain⟨hun,hlt⟩:=zvq hi1
    have hlt':i<ops.length:=vbX
    obtain⟨r,hr⟩:=hget hlt'
    obtain⟨r1,r2,r3,r4,r5⟩:=hrec i r hr
    have ho : o = r.o := by
      have:ops[i]?=some o:=by simpa using hi2
      rw[r1] at this;cases this;rfl
    subst ho
    -- what must come before it has come
    have hpre : ∀k, YS (M.getD i 0) k = true → upto listed k = true := by
      intro k hk
      have h0:=(zpi hM i r.o r1).1
      simp only[yA] at h0
      rw[h0] at hk
      rcases zrz hk with h1 | ⟨e,h1,h2,h3⟩
      · simp at h1
      · have he:=hi3 e vbH h2
        rcases h3 with h3 | h3
        · rw [← h3];exact he
        · exact hcl k e.on he h3
    -- those that differ from the order of the text are apart from it
    have hdiff : ∀k s, rs[k]? = some s → upto listed k ≠ decide (k < i) → Ap r s := by
      intro k s hks hne
      have hki : k ≠ i := by
        intro e
        subst e
        have:upto listed k=false:=hun
        rw[this] at hne
        simp at hne
      rcases hAp i k r s hr hks (Ne.symm hki) with h1 | h1 | h1
      · -- i before k
        have : upto listed k = true → False := fun hl => by
          have:=hcl i k hl h1
          simp only[upto] at this
          rw[hun] at this;cases this
        have hk1 : upto listed k = false := by
          cases hl:upto listed k with
          |false=>rfl
          |true=>exact(this hl).elim
        rw[hk1] at hne
        have hki' : k < i := by
          rcases oY k i with h | h
          · exact h
          · exact absurd (oH vbX).symm hne
        -- k is before i in the text,yet i must come first: edges point back
        rcases(zcq hp k i s r hks hr hki').1 with h2 | h2
        · have:=hpre k vbI
          rw[hk1] at this;cases this
        · exact (ze5 h2 (zh4 (hrec k s hks).2.2.2.2) (zh4 r5)).symm
      · have hk1:=hpre k h1
        rw[hk1] at hne
        have hki' : i < k := by
          rcases oY k i with h | h
          · exact absurd (oK h).symm hne
          · omega
        rcases(zcq hp i k r s hr hks hki').1 with h2 | h2
        · have:=hcl i k hk1 vbI
          simp only[upto] at this
          rw[hun] at this;cases this
        · exact ze5 h2 (zh4 r5) (zh4 (hrec k s hks).2.2.2.2)
      · exact h1
    have hd : delta P ops (XF (upto listed) rs 0 σ).slot (XF (upto listed) rs 0 σ).blk r.o r.h = some r.D := by
      refine zl7 (fR_le fun t ht x hx=>?_) (fR_le fun id hid x hx=>?_) r5
      · rw [← hx]
        exact zwe t rs 0 σ σ rfl fun k s hks hne=>(hdiff k s hks (by simpa using hne)).d2 t ht
      · rw [← hx]
        exact z0y id rs 0 σ σ rfl fun k s hks hne=>(hdiff k s hks (by simpa using hne)).b2 id hid
    have hnew : ∀id ∈ r.D.new, (XF (upto listed) rs 0 σ).used id = false := by
      intro id hid
      cases hl:(XF (upto listed) rs 0 σ).used id with
      |false=>rfl
      |true =>
        exfalso
        rcases zwd id rs 0 σ hl with h1 | ⟨k,s,h1,h2,h3⟩
        · have:=hu id h1
          rw[r4 id hid] at this;cases this
        · have hki : i ≠ k := by
            intro e
            subst e
            simp only[yA,upto] at h2
            rw[hun] at h2;cases h2
          exact hNews i k r s hr h1 hki id hid h3
    have hset : ∀k, upto (listed.setIfInBounds i true) k = if k = i then true else upto listed k := by
      intro k
      simp only[upto]
      by_cases e:k=i
      · subst e;simp [hlt]
      · rw [if_neg e];exact getD_set_ne false (Ne.symm e)
    have hadd : XF (upto (listed.setIfInBounds i true)) rs 0 σ = (XF (upto listed) rs 0 σ).dl r.o.dst r.D := by
      refine z0z i rs 0 σ i hr vbX hun hset fun k s hks hlt2 hS=>?_
      have:=hdiff k s hks (by rw[yA] at hS;rw[hS];simp;omega)
      exact⟨this.dd,this.bb⟩
    unfold wpOp
    simp only[hi2]
    have hstep := zpx (P := P) (ops := ops) hs hd r3 hnew r2 (fun a' w' => wpAny P .any ops.toArray Q fuel (listed.setIfInBounds i true) a' w') Q fun a' w' E' hs' => by
      refine ih _ a' w' E' (by simpa using hsz) ?_ (fun p q hq1 hq2=>?_) (by rw[hadd];exact hs')
      · -- one fewer is left
        have hcount : ∀(l : List Nat), l.Nodup → i ∈ l → l.countP (fun k => !upto (listed.setIfInBounds i true) k) + 1 = l.countP (fun k => !upto listed k) := by
          intro l
          induction l with
          |nil=>intro _ h;cases h
          |cons x l ihl =>
            intro hn hm
            rw[List.nodup_cons] at hn
            rcases oQ.1 hm with e | hm
            · subst e
              have hrest : l.countP (fun k => !upto (listed.setIfInBounds i true) k) = l.countP (fun k => !upto listed k) := List.countP_congr fun k hk => by
                have hne:k≠i:=fun e=>hn.1 (by rw[←e];exact hk)
                rw[hset k,if_neg hne]
              rw[Y1,Y1,hrest,hset i,if_pos rfl]
              have:upto listed i=false:=hun
              simp[this]
            · have hx:x≠i:=fun e=>hn.1 (e ▸ hm)
              have:=ihl hn.2 hm
              rw[Y1,Y1,hset x,if_neg hx]
              omega
        have:=hcount (yI ops.length) List.nodup_range (oV.2 hlt')
        omega
      · rw [hset] at hq1 ⊢
        by_cases e:p=i
        · rw [if_pos e]
        · rw [if_neg e]
          by_cases e2:q=i
          · subst e2;exact hpre p hq2
          · rw [if_neg e2] at hq1;exact hcl p q hq1 hq2
    split
    · rename_i hw
      rw[if_pos hw] at hstep
      exact .inl hstep
    · rename_i hw
      rw[if_neg hw] at hstep
      exact hstep

theorem W.draw{c : Code}{n r : AP}{xs : List (Nat × AP)}{a : Act}{w : World}{s s2 : St}{vcs : List Prop}(hs : H N w0 X0 s a w)(hm : P.follows .mixedOrders = true)(hc : z0s c = true)(hints : List (Nat × Hint)){i : Nat}(he : zpw P N (opsOf c).toList hints i s = some (s2, vcs))(ha : All vcs)(hn : ∀a w, H N w0 X0 s2 a w → n a w) : W P c n r xs a w := by
 cases c<;>simp[z0s] at hc;rename_i id ops d;subst hc;obtain⟨E,hs⟩:=hs;have hs':Sat N w0 X0 s.fs E a { w with drawn:=w.drawn+1 }:=hs.grow ⟨rfl,rfl,rfl,ou _,fun _ _=>rfl⟩;unfold zpw at he;split at he
 ·rename_i s1 p rs hgo;obtain ⟨hck, he⟩ := zaj he;cases he;simp only [oc] at hck;obtain ⟨q1, q2, q3, q4, q5⟩ := zkk (σ := s.fs) hgo ha (fun _ _ h => h) (fun _ _ h => h) (fun _ h => h) 0;refine wp_region_any hm ?_;have h0 : ∀ k, upto (YM ops.size false) k = false := fun k => by simp only [upto, Array.getD_eq_getD_getElem?];grind
  have key := zzr (P := P) (N := N) (w0 := w0) (X0 := X0) (σ := s.fs) (u0 := s.used) (Q := PQ n r xs) q1 hck.1 hck.2 (fun k r hr => by
    have:=q2 k r hr
    simp only[yA] at this
    exact this) (fun id h => h) (fun a w E hsat => hn a w ⟨E, hsat.weaken _ q3 q4 q5⟩) ops.size (YM ops.size false) a { w with drawn := w.drawn + 1 } E (by simp [opsOf]) (by
      refine Nat.le_trans List.countP_le_length ?_
      simp[opsOf]) (fun i j hj=>by rw[h0] at hj;cases hj) ?_
  ·assumption
  have : XF (upto (YM ops.size false)) rs 0 s.fs = s.fs := by
   have : ∀(l : List Rec) (i : Nat) (σ : FS), XF (upto (YM ops.size false)) l i σ = σ := by
    intro l;induction l with
    |nil =>intro i σ;rfl
    |cons x l ih =>intro i σ;simp only[XF,h0];exact ih _ _
   grind
  grind
 cases he

end
end Go.Lite

namespace Go.Lite
open Go Go.RowKit Go.ChangeShapes Go.WideShapes Go.Deep
open _root_.List renaming mem_append→yx, range→yI
open _root_.Nat renaming le_trans→yM

def RdL(w : World)(l : List LV)(cs : List Value) : Prop :=
  cs.length=l.length∧(∀lv∈l,isOne lv=true)∧∀(j:Nat) lv v,l[j]?=some lv→cs[j]?=some v→RepA w lv v

theorem RdL.append{w : World}{l l' : List LV}{cs cs' : List Value}(h : RdL w l cs)(h' : RdL w l' cs') : RdL w (l ++ l') (cs ++ cs') := by
 refine⟨by simp[h.1,h'.1],fun lv hl=>?_,fun j lv v hl hv=>?_⟩
 ·rcases yx.1 hl with hl | hl
  ·exact h.2.1 lv hl
  exact h'.2.1 lv hl
 rcases oY j l.length with hj | hj
 ·rw [o3 hj] at hl;rw [o3 (by rw [h.1]; exact hj)] at hv;exact h.2.2 j lv v hl hv
 rw[o4 hj] at hl;rw[o4 (by rw[h.1];exact hj),h.1] at hv;exact h'.2.2 _ lv v hl hv

theorem RdL.one{w : World}{lv : LV}{v : Value}(h1 : isOne lv = true)(h : RepA w lv v) : RdL w [lv] [v] :=
  ⟨rfl, fun x hx => by rw [oR.1 hx]; exact h1, fun j x u hx hu => by
    cases j with
    |zero=>simp at hx hu;subst hx;subst hu;exact h
    |succ j=>simp at hx⟩

section
variable {P:Program} {H:Type} {enc:TypeId×Value→H} {bk:DataW H→Nat}

structure Bulk(bk : DataW H → Nat) : Prop where
  str:∀bs,bs.length≤bk (.lit (.string bs))
  slen:∀es sp,es.length≤bk (.slice es sp)
  sel:∀es sp,∀e∈es,bk e≤bk (.slice es sp)
  agg:∀ps,∀p∈ps,bk p≤bk (.agg ps)

def Opens(P : Program)(enc : TypeId × Value → H)(bk : DataW H → Nat)(t : TypeId){α : Type}(f : α → List LV)(Ok : Nat → α → Prop) : Prop :=
  ∀(w:World) (spare:Nat→Bool) (held:Bool) (fuel:Nat) (cs:List Value) (x:DataW H×List MemPlace),DataW.trod enc P w 0 spare held fuel t cs=some x→∃a,Ok (bk x.1) a∧RdL w (f a) cs

theorem zvp{k:IntKind}{n:Int}(h:(Lit.int k n).wf=true):inR k n:=by cases k<;>simp[Lit.wf,IntKind.min,IntKind.max,IntKind.signed,IntKind.bits] at h<;>simpa[inR] using h

theorem zur{t:TypeId}{k:IntKind}(ht:P.underlying t=some (.int k)):Opens P enc bk t (cInt k) (fun _ n=>inR k n):=by intro w spare held fuel cs x h;obtain⟨n,rfl,rfl,hw⟩:=DataW.trod_int ht h;exact⟨n,zvp hw,RdL.one rfl fun B=>.int k n⟩
theorem zph{t e : TypeId}{α : Type}[Inhabited α]{f : α → List LV}{Ok : Nat → α → Prop}{sz : Nat}(hb : Bulk bk)(hm : ∀b b' a, b ≤ b' → Ok b a → Ok b' a)(ht : P.underlying t = some (.slice e))(hc : P.cellsOf e = sz)(h1 : 1 ≤ sz)(he : Opens P enc bk e f Ok) : Opens P enc bk t (cSl false sz f) (fun b l => l.length ≤ b ∧ ∀x ∈ l, Ok b x) := by
 intro w spare held fuel cs x h;rcases open_slice ht h with⟨rfl,rfl⟩ | ⟨a,len,cap,m,n,D,Pl,rfl,hba,hl,hm',hmm,rfl,hi⟩
 ·refine ⟨[], ⟨Nat.zero_le _, fun x hx => by cases hx⟩, RdL.one rfl fun B => ?_⟩;exact RepC.emptyRo
 have hel:∀i,i<len→∃y:α,Ok (bk (.slice ((yI len).map D) ((yI (m - len)).map fun j=>D (len+j)))) y∧∃cs',w.cells? 0 (a.add (i * P.cellsOf e)) (P.cellsOf e)=some cs'∧RdL w (f y) cs':=by intro i hil;obtain⟨cs',hcs,htr⟩:=hi i (by rw[hmm];split<;>omega);obtain⟨y,hy,hr⟩:=he w spare held n cs' _ htr;exact⟨y,hm _ _ _ (hb.sel _ _ _ (List.mem_map.2 ⟨i,oV.2 hil,rfl⟩)) hy,cs',hcs,hr⟩
 let g:Nat→α:=fun i=>if h:i<len then Classical.choose (hel i h) else default;have hg:∀i,i<len→Ok (bk (.slice ((yI len).map D) ((yI (m - len)).map fun j=>D (len+j)))) (g i)∧∃cs',w.cells? 0 (a.add (i * P.cellsOf e)) (P.cellsOf e)=some cs'∧RdL w (f (g i)) cs':=fun i h=>by grind
 have hrow:∀i,i<len→rowOf f ((yI len).map g) i=f (g i):=fun i h=>by simp[rowOf,h]
 refine⟨(yI len).map g,⟨?_,fun x hx=>?_⟩,RdL.one rfl fun B=>?_⟩
 ·refine yM ?_ (hb.slen _ _);simp
 ·grind
 have hlen:((yI len).map g).length=len:=vbZ
 rw[hlen];have hcell:∀i,i<len→∃cs',RdL w (f (g i)) cs'∧cs'.length=sz∧∀j,j<sz→w.cell? (a.add (i * sz+j))=cs'[j]?:=fun i h=>by obtain⟨_,cs',hcs,hr⟩:=hg i h;rw[hc] at hcs;obtain⟨_,c2,c3⟩:=World.cells?_some hcs;exact⟨cs',hr,c2,fun j hj=>by rw[←zil];exact c3 j hj⟩
 have hsz:∀i,i<len→(f (g i)).length=sz:=fun i h=>by obtain⟨cs',hr,c2,_⟩:=hcell i h;rw[←hr.1,c2]
 refine .ro false sz len _ (some a) a cap (fun i j=>(w.cell? (a.add (i * sz+j))).getD undef) hl (fun _=>rfl) (fun h0=>?_) (fun _ h=>h) (fun _ h=>vbU) (fun i h=>by rw[hrow i h];exact hsz i h) (fun i h=>by obtain⟨cs',hr,_⟩:=hcell i h;rw[hrow i h];exact hr.2.1) (fun i j h hj=>?_) fun i j lv h hlv=>?_
 ·obtain ⟨cs', hr, c2, c3⟩ := hcell 0 h0;have hj := c3 0 vbX;rw [oj vbX] at hj;have := block_lt_of_cell hj;rwa [zcm] at this
 ·obtain ⟨cs', hr, c2, c3⟩ := hcell i h;rw [c3 j hj, oj vbX]; rfl
 obtain⟨cs',hr,c2,c3⟩:=hcell i h;rw[hrow i h] at hlv;have hj:j<sz:=by rw[←hsz i h];exact(oE.1 hlv).1
 have e1:cs'[j]?=some (cs'[j]' vbX):=oj vbX;simp only[c3 j hj,e1,Option.getD_some];exact hr.2.2 j lv _ hlv e1 B

theorem Opens.map{t:TypeId}{α β:Type}{f:α→List LV}{g:β→List LV}{Ok:Nat→α→Prop}{Ok':Nat→β→Prop}(h:Opens P enc bk t f Ok)(m:α→β)(hf:∀a,f a=g (m a))(hO:∀b a,Ok b a→Ok' b (m a)):Opens P enc bk t g Ok':=by intro w spare held fuel cs x hx;obtain⟨a,ha,hr⟩:=h w spare held fuel cs x hx;grind

theorem z04{w:World}{spare:Nat→Bool}{held:Bool}{t:TypeId}{v:Value}{d:DataW H}{ps:List MemPlace}{α:Type}{f:α→List LV}{Ok:Nat→α→Prop}(ho:Opens P enc bk t f Ok){k:α→LV}(hk:∀a,f a=[k a])(hv:v.cells=#[v])(h:DataW.Trod enc P w 0 spare held t v d ps):∃a,Ok (bk d) a∧RepA w (k a) v:=by obtain⟨fuel,hf⟩:=h;obtain⟨a,ha,hr⟩:=ho w spare held fuel _ _ hf;refine⟨a,ha,?_⟩;rw[hv,hk] at hr;exact hr.2.2 0 _ _ rfl rfl
theorem zt5{w:World}{r:Reach}{b0:Nat}{spare:Nat→Bool}{held:Bool}{t e:TypeId}{v:Value}{d:DataW H}{ps:List MemPlace}{α:Type}[Inhabited α]{sz:Nat}{f:α→List LV}{Ok:Nat→List α→Prop}(ho:Opens P enc bk t (cSl false sz f) Ok)(ht:P.underlying t=some (.slice e))(hv:Value.okWide P w r b0 t v)(h:DataW.Trod enc P w 0 spare held t v d ps):∃l:List α,Ok (bk d) l∧RepA w (.ro false sz l.length (rowOf f l)) v:=by obtain⟨a,n,c,rfl⟩:=okWide_slice ht hv;exact z04 (k:=fun l=>.ro false sz l.length (rowOf f l)) ho (fun _=>rfl) rfl h
theorem zh0(hl : laidOutB P = true){W W' : World}{sp' : Nat → Bool} : ∀{ts : List TypeId} {vs : List Value} {ds : List (DataW H)} {ps : List MemPlace}, ts.all (fun t => P.readableRec t && decide (t < P.types.size)) = true →
    DataW.TrodAll enc P W 0 (fun _=>true) true ts vs ds ps→(∀p∈ps,W.sameAt W' p)→(∀p∈ps,sp' p.block=true)→DataW.TrodAll enc P W' 0 sp' true ts vs ds ps
  |[], vs, ds, ps, _, h, _, _ => by
    cases vs<;>cases ds<;>simp[DataW.TrodAll] at h ⊢
    exact h
  |t :: ts, vs, ds, ps, ht, h, hs, hsp => by
    obtain⟨v,vs',d,ds',p,q,rfl,rfl,rfl,h1,h2⟩:=trodAll_cons h
    simp only[List.all_cons,oc,ob] at ht
    exact ⟨p, q, WideElems.Trod_stays hl ht.1.1 ht.1.2 h1 (fun x hx => hs x (yx.2 (.inl hx))) (fun x hx => hsp x (yx.2 (.inl hx))),
      zh0 hl (by simpa using ht.2) h2 (fun x hx=>hs x (yx.2 (.inr hx))) (fun x hx=>hsp x (yx.2 (.inr hx))),rfl⟩

theorem zms{f : Func}{s : ChangeSpec}{apart fresh handsOn again : Bool}{W W' : World}{args : Array Value}{v : Value}{ds gs : List (DataW H)}{before pa pv : List MemPlace}(hW : DataW.Whole enc P f.params.toList s.vars apart W args.toList ds gs before)(hres : ∀(b : Nat) (sp : Nat → Bool) (hd : Bool), DataW.TrodAll enc P W' b sp hd f.resultTypes.toList (v.resultList f.resultTypes.size) (s.fn H (ds ++ gs)).results [])(hargs : ∀sp : Nat → Bool, (∀p ∈ before, sp p.block = true) → DataW.TrodAll enc P W' 0 sp true f.params.toList args.toList (s.fn H (ds ++ gs)).args pa)(hvars : ∀sp : Nat → Bool, (∀p ∈ before, sp p.block = true) → DataW.TrodVars enc P W' sp s.vars (s.fn H (ds ++ gs)).vars pv)(hps : before = pa ++ pv)(hb : Below W.heap.size W W')(hok : ∀(j : Nat) (t : TypeId) (r : Value), f.resultTypes[j]? = some t → (v.resultList f.resultTypes.size)[j]? = some r → Value.okWide P W' .any 0 t r) : s.post enc P f apart fresh handsOn again W args v W' := by
 have hlt:∀p∈before,p.block<W.heap.size:=fun p hp=>hW.lt p hp;have hold:∀p∈before,(fun b=>decide (b<W.heap.size)) p.block=true:=fun p hp=>by simpa using hlt p hp
 refine ⟨ds, gs, before, [], pa, pv, hW, hres _ _ _, hargs _ hold, hvars _ hold, World.keptBut_mono (fun p hp => ⟨hp, ?_⟩) (hb.frame (· ∈ before)), fun _ => ?_⟩
 ·grind
 obtain⟨_,_,_,_,_,hz,hn⟩:=hW;refine⟨hok,_,_,([]++pa)++pv,⟨[]++pa,pv,trodAll_append (hargs _ (fun _ _=>rfl)) (hres _ _ _),hvars _ (fun _ _=>rfl),rfl,?_,?_⟩,?_⟩
 ·intro b off hp;have hin : MemPlace.cell b off ∈ before := vbY
  rw[hb.frozen (hlt _ hin)];exact hz b off hin
 ·grind
 grind

end

theorem Fn.true_of{P:Program}{f:FuncId}{args:List LV}(h:Fn P f args (.bool true) []){W:World}(hgh:GH W){vals:Array Value}(hl:vals.toList.length=args.length)(hr:∀(i:Nat) lv v,args[i]?=some lv→vals.toList[i]?=some v→RepA W lv v):Calls P f vals W fun e w'=>e=.returned (.bool true)∧Below W.heap.size W w':=by refine(h W vals.toList hgh hl hr).mono fun e w' ⟨v,he,hb,E,hv,_⟩=>?_;rw[he,hv.bool_inv];grind

theorem zoc{α:Type}{p:α→Prop}(b b':Nat)(a:α)(_:b≤b')(h:p a):p a:=h
theorem z1q{α:Type}{Ok:Nat→α→Prop}(hm:∀b b' a,b≤b'→Ok b a→Ok b' a)(b b':Nat)(l:List α)(h:b≤b')(hl:l.length≤b∧∀y∈l,Ok b y):l.length≤b'∧∀y∈l,Ok b' y:=⟨yM hl.1 h,fun y hy=>hm _ _ y h (hl.2 y hy)⟩
end Go.Lite

namespace Go.Lite
open Go Go.RowKit

def loopN{S α : Type}(body : Nat → S → (S → α) → α)(k : S → α) : Nat → Nat → S → α
  |0,_,s=>k s
  |m+1,i,s=>body i s fun s'=>loopN body k m (i+1) s'

theorem ct{α:Type}{c:Bool}{x y R:α}(h:(bif c then x else y)=R)(hc:c=true):x=R:=by subst hc;exact h
theorem cf{α:Type}{c:Bool}{x y R:α}(h:(bif c then x else y)=R)(hc:c=false):y=R:=by subst hc;exact h

section
variable {S α:Type} {body:Nat→S→(S→α)→α} {k:S→α} {R:α} {s:S} {i n:Nat}
theorem zaq(h:loopN body k (n - i) i s=R)(hi:i<n):body i s (fun s'=>loopN body k (n - (i+1)) (i+1) s')=R:=by have e:n - i=(n - (i+1))+1:=vbX;rw[e] at h;exact h
theorem zau(h:loopN body k (n - i) i s=R)(hi:¬i<n):k s=R:=by have e:n - i=0:=vbX;rw[e] at h;exact h
theorem zoe(Inv : Nat → S → Prop)(Q : α → Prop)(hb : ∀i s next, Inv i s → (∀s', Inv (i + 1) s' → Q (next s')) → Q (body i s next))(hk : ∀i s, Inv i s → Q (k s)) : ∀m i s, Inv i s → Q (loopN body k m i s)
  |0,i,s,h=>hk i s h
  |m+1,i,s,h=>hb i s _ h fun s' h'=>zoe Inv Q hb hk m (i+1) s' h'
variable {P:Program} {c:Code} {n' r:AP} {xs:List (Nat×AP)} {a:Act} {w:World} {N:Nat} {w0:World} {X0:Fr}
end

def loopW{S α : Type}[Inhabited α](body : S → (S → α) → α) : Nat → S → α
  |0,_=>default
  |m+1,s=>body s (loopW body m)
def jn{S α:Type}(f:(S→α)→α)(k:S→α):α:=f k

section
variable {S α:Type} [Inhabited α] {body:S→(S→α)→α} {R:α}
variable {P:Program} {c:Code} {n' r:AP} {xs:List (Nat×AP)} {a:Act} {w:World} {N:Nat} {w0:World} {X0:Fr}
end
theorem W.join{S α:Type}{f:(S→α)→α}{k:S→α}{R:α}{P:Program}{c:Code}{n r:AP}{xs:List (Nat×AP)}{a:Act}{w:World}{N:Nat}{w0:World}{X0:Fr}(hR:jn f k=R)(hc:isSeq c=true)(st:S→St)(J:S→Prop)(h1:f k=R→W P (c1 c) (fun a w=>∃v,k v=R∧J v∧H N w0 X0 (st v) a w) r xs a w)(h2:∀v a w,k v=R→J v→H N w0 X0 (st v) a w→W P (c2 c) n r xs a w):W P c n r xs a w:=W.seqM hc _ (h1 hR) fun a w ⟨v,q1,q2,q3⟩=>h2 v a w q1 q2 q3

theorem zho{S α : Type}{body : Nat → S → (S → α) → α}{k : S → α}(Inv : Nat → S → Prop)(Q : α → Prop)(n : Nat)(hb : ∀i s next, i < n → Inv i s → (∀s', Inv (i + 1) s' → Q (next s')) → Q (body i s next))(hk : ∀s, Inv n s → Q (k s)) :
    ∀m i s,i+m=n→Inv i s→Q (loopN body k m i s)
  |0,i,s,he,h=>hk s (by rw[←he];exact h)
  |m+1,i,s,he,h=>hb i s _ vbX h fun s' h'=>zho Inv Q n hb hk m (i+1) s' vbX h'
theorem zcd{S α:Type}{body:Nat→S→(S→α)→α}{k:S→α}{n:Nat}{s:S}(Inv:Nat→S→Prop)(Q:α→Prop)(h0:Inv 0 s)(hb:∀i s next,i<n→Inv i s→(∀s',Inv (i+1) s'→Q (next s'))→Q (body i s next))(hk:∀s,Inv n s→Q (k s)):Q (loopN body k n 0 s):=zho Inv Q n hb hk n 0 s vbX h0
theorem zdi{S α : Type}[Inhabited α]{body : S → (S → α) → α}(Inv : S → Prop)(μ : S → Nat)(Q : α → Prop)(hb : ∀s next, Inv s → (∀s', Inv s' → μ s' < μ s → Q (next s')) → Q (body s next)) : ∀m s, μ s < m → Inv s → Q (loopW body m s)
  |0,s,hm,_=>absurd hm (oO _)
  |m+1,s,hm,h=>hb s _ h fun s' h' hlt=>zdi Inv μ Q hb m s' vbX h'
theorem zax{c x:Bool}:(bif c then false else x)=true↔c=false∧x=true:=by cases c<;>simp
theorem zaw{a b:Bool}:(a||b)=false↔a=false∧b=false:=by cases a<;>simp
theorem za4{a:Bool}:(!a)=false↔a=true:=by cases a<;>simp
theorem zci{a:Bool}:(!a)=true↔a=false:=by cases a<;>simp
theorem zgl(p : Nat → Bool)(k : Unit → Bool) : ∀m i, loopN (fun i (_ : Unit) next => bif p i then false else next ()) k m i () = true ↔ (∀j, i ≤ j → j < i + m → p j = false) ∧ k () = true
  |0,i=>by simp only[loopN];exact⟨fun h=>⟨fun j h1 h2=>by omega,h⟩,fun h=>h.2⟩
  |m + 1, i => by
    simp only[loopN]
    cases hp:p i with
    |true =>
      grind
    |false =>
      simp only[oB]
      rw[zgl p k m (i+1)]
      grind
theorem zfm(p:Nat→Bool)(k:Unit→Bool)(n:Nat):loopN (fun i (_:Unit) next=>bif p i then false else next ()) k n 0 ()=true↔(∀j,j<n→p j=false)∧k ()=true:=by rw[zgl];grind
theorem zar : ∀{l m : List LV}, FrsL (l ++ m) ↔ FrsL l ∧ FrsL m
  |[],m=>by simp[FrsL]
  |v :: l,m=>by simp[FrsL,zar,and_assoc]

section
variable {α:Type} [Inhabited α] (f:α→List LV)
theorem zln(l m : List α) : ∀k, k < l.length + m.length → rowOf f (l ++ m) k = bif Nat.blt k l.length then rowOf f l k else rowOf f m (k - l.length) := by
 intro k hk;cases hb:Nat.blt k l.length with
 |true =>have:=zmc hb;simp only[rowOf,oC,oh,o3 this]
 |false =>
  have : l.length ≤ k := by
   rcases oY k l.length with h | h
   ·have h2 : Nat.blt k l.length = true := oZ h;grind
   exact h
  simp only[rowOf,oB,oh,o4 this]
theorem z1b(l : List α)(i : Nat)(x : α)(hi : i < l.length) : ∀k, k < l.length → rowOf f (l.set i x) k = bif Nat.beq k i then f x else rowOf f l k := by
 intro k hk;cases hb:Nat.beq k i with
 |true =>have:=om hb;subst this;simp[rowOf,hk]
 |false =>have hne:i≠k:=fun e=>(by subst e;rw[Nat.beq_refl] at hb;cases hb);simp[rowOf,List.getElem?_set_ne hne]
theorem zdg(n:Nat)(x:α):∀k,k<n→rowOf f (List.replicate n x) k=f x:=by intro k hk;simp[rowOf,hk]
end

theorem zdj{α:Type}(l:List α)(i k:Nat)(x d:α):(l.set i x).getD k d=if k=i∧i<l.length then x else l.getD k d:=vbY
theorem zkg{α:Type}(l:List α)(k:Nat)(x d:α):(l++[x]).getD k d=if k<l.length then l.getD k d else if k=l.length then x else d:=vbY
theorem zai{α : Type}{p : α → Prop}{c : Bool}{x y : α}(h1 : c = true → p x)(h2 : c = false → p y) : p (bif c then x else y) := by
 cases c with
 |true =>exact h1 rfl
 |false =>exact h2 rfl

theorem zuk{α:Type}[Inhabited α](f:α→List LV)(l:List α)(a n:Nat):∀k,k<n→rowOf f l (a+k)=rowOf f ((l.drop a).take n) k:=by intro k hk;simp only[rowOf,oh,List.getElem?_take,hk,if_true,List.getElem?_drop]

end Go.Lite
