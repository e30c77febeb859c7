/- Regions of operations that run in the order of the text, executed on lists of claims; each step is sound. Conditions: none; over any program. -/
import Derived.Test.YtnibbmmljamolaaGreatLiteDS
set_option linter.unusedVariables false
namespace Go.Lite
open Go Go.RowKit


structure St where
  slots:List (Nat×LV)
  blks:List (Nat×BC)
  used:List Nat

def mem(l:List Nat)(i:Nat):Bool:=l.any (Nat.beq i)
theorem mem_iff{l:List Nat}{i:Nat}:mem l i=true↔i∈l:=by simp only[mem];simp_all

def memU(l:List Nat)(i:Nat):Bool:=mem l i||Nat.ble 900000 i
def St.fs(s:St):FS:=⟨look s.slots,look s.blks,memU s.used⟩

def H(N:Nat)(w0:World)(X0:Fr)(s:St)(a:Act)(w:World):Prop:=∃E,Sat N w0 X0 s.fs E a w

section
variable {P:Program} {N:Nat} {w0:World} {X0:Fr} {σ:FS} {E:Env} {a:Act} {w:World}

def reV(h : Hint)(r : LV × List Prop) : LV × List Prop :=
  match h,r.1 with
  |.rowN _ n row,.ro fr sz n0 row0=>(.ro fr sz n row,[All r.2∧zc5 n0 n row0 row])
  |_,_=>r
theorem zz4(h:Hint)(r:LV×List Prop):reV h r=r∨∃i n row fr sz n0 row0,h=.rowN i n row∧r.1=.ro fr sz n0 row0∧reV h r=(.ro fr sz n row,[All r.2∧zc5 n0 n row0 row]):=by unfold reV;grind
theorem RepC.rowsV{w : World}{B : Nat}{X : Nat → Prop}{fr : Bool}{sz n n' : Nat}{row row' : Nat → List LV}{v : Value}(h : RepC w B X (.ro fr sz n row) v)(he : zc5 n n' row row') : RepC w B X (.ro fr sz n' row') v := by
 obtain⟨rfl,he⟩:=he;cases h with
 |ro _ _ _ _ A ad cap cv hcap hA hlt hX hB hsz ho hc h =>exact .ro fr sz n row' A ad cap cv hcap hA hlt hX hB (fun i hi=>by rw[←he i hi];exact hsz i hi) (fun i hi=>by rw[←he i hi];exact ho i hi) hc fun i j lv hi hl=>h i j lv hi (by rw[he i hi];exact hl)
def vopA(P : Program)(o : Oper)(sl : Nat → Option LV)(blk : Nat → Option BC)(h : Hint) : Option (LV × List Prop) :=
  match vop P o sl blk h with
  |some r=>some r
  | none => match vop2 P o sl blk with
    |some r=>some (reV h r)
    |none=>none
theorem zi9(hs : Sat N w0 X0 σ E a w){o : Oper}{h : Hint}{lv : LV}{p : List Prop}(hv : vopA P o σ.slot σ.blk h = some (lv, p))(ha : All p) : VOk P w0 X0 σ E a w o lv := by
 unfold vopA at hv;split at hv
 ·rename_i r hr; cases hv; exact zzg hs hr ha
 split at hv
 ·rename_i r hr;obtain ⟨lv0, p0⟩ := r;rcases zz4 h (lv0, p0) with e | ⟨i, n, row, fr, sz, n0, row0, _, e, e2⟩
  ·rw [e] at hv; cases hv; exact zqi hs hr ha
  rw[e2] at hv;cases hv;subst e;obtain⟨v,h1,h2,h3⟩:=zqi hs hr ha.1.1;refine⟨v,h1,?_,fun id hm=>vdd⟩;cases h2 with
  |c _ _ h2 =>exact .c _ _ (h2.rowsV ha.1.2)
 cases hv

def St.put(s : St)(d : Option Nat)(lv : LV) : St :=
  match d with
  |some d=>{ s with slots:=(d,lv) :: s.slots }
  |none=>s
def okDst(N : Nat) : Option Nat → Bool
  |some d=>Nat.blt d N
  |none=>true
def zhp(ops : List Oper)(sl : Nat → Option LV)(j : Nat)(want : Bool) : Option Bool :=
  match ops[j]? with
  | some o => match o.dst with
    | some t => match sl t with
      |some (.bool b)=>some (bif want then b else !b)
      |some (.whn c (.bool b))=>some (c&&(bif want then b else !b))
      |_=>none
    |none=>none
  |none=>none

def zsf(s : St)(D : MD) : List (Nat × BC) :=
  (D.new ++ s.blks.map (·.1)).filterMap fun i => ((s.fs.upd D.K D.ub).blk i).map fun c => (i, c)

def op1(P : Program)(N : Nat)(ops : List Oper)(s : St)(o : Oper)(h : Hint) : Option (St × List Prop) :=
  match o.guard with
  | none => match vopA P o (look s.slots) (look s.blks) h with
    |some (lv,p)=>bif okDst N o.dst then some (s.put o.dst lv,p) else none
    | none => match mop P o (look s.slots) (look s.blks) h with
      | some D => bif D.new.all (fun i => !memU s.used i) then
          match o.dst,D.dst with
          |some d,some lv=>bif Nat.blt d N then some (⟨(d,lv) :: s.slots,zsf s D,D.new++s.used⟩,D.vcs) else none
          |none,_=>some (⟨s.slots,zsf s D,D.new++s.used⟩,D.vcs)
          |_,_=>none
        else none
      |none=>none
  | some (j, want) => match zhp ops (look s.slots) j want with
    | some g => match vopA P o (look s.slots) (look s.blks) h with
      |some (lv,p)=>bif okDst N o.dst then some (s.put o.dst (.whn g lv),p.map fun t=>g=true→t) else none
      | none => match mop P o (look s.slots) (look s.blks) h with
        | some D => match o.dst, D.dst with
          | some d, some lv => bif Nat.blt d N && D.new.all (fun i => !memU s.used i) && s.blks.all (fun x => !D.K x.1 && (D.ub x.1).isNone) then
              match frz (s.fs.upd D.K D.ub).blk lv with
              |some (x,is)=>bif is.all (fun i=>mem D.new i) then some (⟨(d,.whn g x) :: s.slots,s.blks,D.new++s.used⟩,D.vcs.map fun t=>g=true→t) else none
              |none=>none
            else none
          |_,_=>none
        |none=>none
    |none=>none

theorem zrt{d j:Nat}{l:List BC}(h:resB d l j≠none):j∈(List.range l.length).map (resId d):=by obtain⟨c,hc⟩:=oP.1 h;obtain⟨k,rfl,hk⟩:=zks hc;grind
theorem zgv{i j : Nat}{c : BC}(h : oneB i c j ≠ none) : j = i := by
 unfold oneB at h;by_cases e:j=i
 ·exact e
 simp[e] at h

theorem zec{c : Bool}{α : Type}{x : Option α}{y : α}(h : (bif c then x else none) = some y) : c = true ∧ x = some y := by
 cases c with
 |true =>exact⟨rfl,h⟩
 |false =>cases h
theorem zrh{m n:Nat}(h:Nat.blt m n=true):m<n:=by have:=oU h;omega

theorem zxs{blk:Nat→Option BC}{v x:LV}{is:List Nat}(h:frz blk v=some (x,is)):∀k∈is,∃sz n row,blk k=some (.arr sz n row):=by unfold frz at h;grind

theorem zuo{blk : Nat → Option BC}{g : Nat}{xs : List LV}{p : List Prop}{dst : Bool}{d : Nat}{ids : List Nat}{rbl : List (Nat × BC)}{r : LV}{D : MD}(h : callM P blk g xs p dst d ids rbl r = some D) : (∀i, D.ub i ≠ none → i ∈ D.new ∨ blk i ≠ none) ∧ ∀i, D.K i = true → blk i ≠ none := by
 unfold callM at h;split at h
 ·rename_i bl fn hbl hfn;obtain ⟨hc, rfl⟩ := zay h;simp only [oc] at hc;obtain ⟨_, _, _, hkeys⟩ := hc;obtain ⟨_, b2⟩ := zry hbl;have hl : ∀ i ∈ ids, blk i ≠ none := fun i hi => by obtain ⟨c, h1, _⟩ := b2 _ _ (zlg hi);grind
  refine⟨fun i hi=>?_,fun i hi=>hl i (killL_mem.1 hi)⟩;obtain⟨c,hc⟩:=oP.1 hi;obtain⟨i0,c0,h1,h2,_⟩:=zkd (outM ids d) (fun x=>renB (outM ids d) x.2) hc;have hm:=zc0 h2;cases h9:Nat.ble 900000 i0 with
  |true =>right;have h3:=zrh (o4.1 hkeys _ hm);have h4:=oU h9;have h5:outM ids d i0=ids[i0 - 900000]' vdh:=(by unfold outM;rw[h9];simp only[oE,oi,ol (show i0 - 900000<ids.length by omega),Option.getD_some]);rw[←h1,h5];exact hl _ (List.getElem_mem _)
  |false =>
   left;have h4 : i0 < 900000 := by
    rcases o0 i0 900000 with h | h
    ·exact h
    rw[o3 h] at h9;cases h9
   have h5:outM ids d i0=resId d i0:=(by unfold outM;rw[h9];rfl);rw[←h1,h5];simp only[newM,List.mem_map,o9];exact⟨(i0,c0),⟨hm,o3 h4⟩,rfl⟩
 cases h

theorem zxd{o:Oper}{sl:Nat→Option LV}{blk:Nat→Option BC}{h:Hint}{D:MD}(hm:mop0 P o sl blk h=some D):∀i,D.ub i≠none→i∈D.new∨blk i≠none:=by unfold mop0 at hm;intro i hi;(repeat' split at hm);all_goals first|(cases hm;done)|exact(zuo hm).1 i hi|(obtain⟨_,hm⟩:=zay hm;subst hm;exact absurd rfl hi)|(simp only[ou] at hm;obtain⟨cs,hcs,rfl⟩:=hm;left;have e:=zgv hi;subst e;exact oT.2 rfl)|(obtain⟨_,hm⟩:=zay hm;subst hm;left;have e:=zgv hi;subst e;exact oT.2 rfl)|(obtain⟨_,hm⟩:=zay hm;subst hm;right;have e:=zgv hi;subst e;intro h0;simp_all;done)|(obtain⟨_,hm⟩:=zay hm;subst hm;left;exact zrt hi)|(obtain⟨_,hm⟩:=zec hm;obtain⟨_,hm⟩:=zay hm;subst hm;left;have e:=zgv hi;subst e;exact oT.2 rfl)|(obtain⟨_,hm⟩:=zay hm;cases hm;left;have e:=zgv hi;subst e;exact oT.2 rfl)

theorem z21{blk:Nat→Option BC}{cs:List LV}{sz:Nat}{rs:List NR}{ids:List Nat}(h:nrsOf blk cs=some (sz,rs,ids)):sz=szOfs blk cs∧nrsGo blk sz cs=some (rs,ids):=by obtain⟨x,h1,h2⟩:=ou.1 h;grind
theorem zqs{blk : Nat → Option BC}{sz : Nat} : ∀{cs : List LV} {rs : List NR} {ids : List Nat}, nrsGo blk sz cs = some (rs, ids) → ∀f ∈ ids, blk f ≠ none
  |[],rs,ids,h=>by cases h;exact fun f hf=>by cases hf
  |v :: r, rs, ids, h => by
    simp only[nrsGo] at h
    split at h
    · rename_i s x is xs js h1 h2
      obtain⟨_,h⟩:=zay h
      cases h
      intro f hf
      rcases List.mem_append.1 hf with hf | hf
      · rcases zl8 h1 with ⟨f',_,_,_,_,e2,_,e4,_⟩ | ⟨_,_,e3⟩
        · grind
        · grind
      · exact zqs h2 f hf
    · cases h
theorem zyq{blk:Nat→Option BC}{cs:List LV}{sz:Nat}{rs:List NR}{ids:List Nat}(h:nrsOf blk cs=some (sz,rs,ids)):∀f∈ids,blk f≠none:=zqs (z21 h).2
theorem zxc{o : Oper}{sl : Nat → Option LV}{blk : Nat → Option BC}{h : Hint}{D : MD}(hm : mopN P o sl blk h = some D) : (∀i, D.ub i ≠ none → i ∈ D.new ∨ blk i ≠ none) ∧ ∀i, D.K i = true → blk i ≠ none := by
 have two : ∀{d id : Nat} {c c' : BC} {i : Nat}, (bif Nat.beq i d then some c else oneB id c' i) ≠ none → i = d ∨ i = id := fun {d id c c' i} h => by
  cases hb:Nat.beq i d with
  |true =>exact .inl (oo hb)
  |false =>rw[hb] at h;exact .inr (zgv h)
 have kill:∀{l:List Nat} {i:Nat},(∀k∈l,blk k≠none)→killL l i=true→blk i≠none:=fun hl hk=>hl _ (killL_mem.1 hk);unfold mopN at hm;repeat' split at hm
 all_goals first|(cases hm;done)|skip
 all_goals (obtain⟨_,hm⟩:=zay hm;subst hm;refine⟨fun i hi=>?_,fun i hi=>?_⟩)
 all_goals first
   |(left;have e:=zgv hi;subst e;exact oT.2 rfl)
   |(right;have e:=zgv hi;subst e;intro h0;simp_all;done)
   |(cases hi;done)
   | (rcases two hi with e | e
      · subst e;exact .inl (oT.2 rfl)
      · subst e;right;intro h0;simp_all;done)
   |(exact kill (zyq vc9) hi)
   |(refine kill (fun k hk=>?_) hi;simp only[oS,Oa,or_false] at hk;first|(subst hk;simp_all;done)|(rcases hk with rfl|rfl<;>simp_all))
theorem z0k{o : Oper}{sl : Nat → Option LV}{blk : Nat → Option BC}{h : Hint}{D : MD}(hm : mop P o sl blk h = some D) : ∀i, D.ub i ≠ none → i ∈ D.new ∨ blk i ≠ none := by
 rcases ziw hm with hm | ⟨wk,id,n,row,D0,hi0,e,h0,h1⟩ | hm
 ·exact zxd hm
 rotate_left
 ·exact (zxc hm).1
 obtain⟨_,_,_,_,rfl⟩:=znf h1;intro i hi;exact zxd h0 i (z37 vc9 hi)
theorem zd9{α : Type}(f : Nat → Option α) : ∀(l : List Nat) (j : Nat) (c : α), look (l.filterMap fun i => (f i).map fun c => (i, c)) j = some c → f j = some c
  |[],j,c,h=>by simp[look] at h
  |i :: l, j, c, h => by
    cases hf:f i with
    |none=>simp only[List.filterMap_cons,hf] at h;exact zd9 f l j c h
    |some x =>
      simp only[List.filterMap_cons,hf,Option.map_some,zbx] at h
      by_cases e:j=i
      · grind
      · simp only [e] at h;exact zd9 f l j c h

theorem mem_append{l r:List Nat}{i:Nat}:mem (l++r) i=(mem l i||mem r i):=by simp[mem]
theorem zkb{l r:List Nat}{i:Nat}:memU (l++r) i=(mem l i||memU r i):=by simp[memU,mem_append,Bool.or_assoc]
theorem zl9(s:St)(D:MD):∀i c,look (zsf s D) i=some c→(s.fs.upd D.K D.ub).blk i=some c:=fun i c h=>zd9 _ _ i c h

theorem zuw{s : St}{o : Oper}{h : Hint}{D : MD}(hm : mop P o (look s.slots) (look s.blks) h = some D)(hs : Sat N w0 X0 s.fs E a w) : ∀i, (s.fs.upd D.K D.ub).used i = true → memU (D.new ++ s.used) i = true := by
 intro i hi;simp only[FS.upd,oj,Option.isSome_iff_ne_none] at hi;rw[zkb,oj];rcases hi with hi | hi
 ·rcases z0k hm i hi with h1 | h1
  ·exact .inl (mem_iff.2 h1)
  exact .inr (hs.live i h1)
 exact .inr hi

theorem zh7{ops : List Oper}{s : St}{o : Oper}{j : Nat}{want g : Bool}(hg : o.guard = some (j, want))(h : zhp ops (look s.slots) j want = some g)(hs : Sat N w0 X0 s.fs E a w) : Region.wanted o (yielded ops.toArray a.tmps) = g := by
 unfold zhp at h;split at h
 ·rename_i o' ho;split at h
  ·rename_i t ht;have hget : ∀ v, a.tmps.getD t undef = v → v ≠ undef → a.tmps[t]? = some v := (by intro v hv hne;rw [Array.getD_eq_getD_getElem?] at hv;grind);have hyt : ∀ b, a.tmps.getD t undef = .bool b → yielded ops.toArray a.tmps j = some b := vbM;have hyf : a.tmps.getD t undef = undef → yielded ops.toArray a.tmps j = none := by
    intro hb;rw[Array.getD_eq_getD_getElem?] at hb;cases h1:a.tmps[t]? with
    |none =>simp[yielded,ho,ht,h1]
    |some u =>rw[h1] at hb;simp at hb;simp[yielded,ho,ht,h1,hb,undef]
   split at h
   ·rename_i b hb;cases h;have := (hs.slots t _ hb).bool_inv;rw [Region.wanted, hg];grind
   ·rename_i c b hb;cases h;have hr := hs.slots t _ hb;rw [Region.wanted, hg];cases c with
    |true =>
     have hb' : a.tmps.getD t undef = .bool b := by
      cases hr with
      |c _ _ h =>cases h
      |whn _ _ _ h1 _ =>exact(h1 rfl).bool_inv
     grind
    |false =>
     have hb' : a.tmps.getD t undef = undef := by
      cases hr with
      |c _ _ h =>cases h
      |whn _ _ _ _ h2 =>exact h2 rfl
     grind
   cases h
  cases h
 cases h

theorem St.put_fs(s:St)(d:Nat)(lv:LV):(s.put (some d) lv).fs=s.fs.put d lv:=by simp only[St.fs,St.put,FS.put,zbx]

theorem zhm{d:Nat}(h:okDst N (some d)=true):d<N:=zrh h

theorem ztj{ops : List Oper}{s s' : St}{o : Oper}{h : Hint}{vcs : List Prop}(ho : op1 P N ops s o h = some (s', vcs))(ha : All vcs)(hs : H N w0 X0 s a w)(K : Act → World → Prop)(Q : Exit → Act → World → Prop)(hk : ∀a' w', H N w0 X0 s' a' w' → K a' w') : if Region.wanted o (yielded ops.toArray a.tmps) then o.wp P a w K Q else K (a.put o.dst undef) w := by
 obtain⟨E,hs⟩:=hs;unfold op1 at ho;split at ho
 ·rename_i hg;have hw : Region.wanted o (yielded ops.toArray a.tmps) = true := by rw [Region.wanted, hg]
  rw[if_pos hw];split at ho
  ·rename_i lv p hv;obtain ⟨hd, ho⟩ := zay ho;cases ho;obtain ⟨v, h1, h2, h3⟩ := zi9 hs hv ha;refine zcs h1 (hk _ _ ⟨E, ?_⟩);cases hdst : o.dst with
   |none =>exact hs
   |some d =>rw[hdst] at hd;rw[St.put_fs];exact hs.put (zhm hd) h2 h3
  split at ho
  ·rename_i D hm;obtain ⟨hnew, ho⟩ := zec ho;have hnew' : ∀ i ∈ D.new, s.fs.used i = false := fun i hi => (by have := o4.1 hnew i hi;simpa [St.fs] using this);split at ho
   ·rename_i d lv hd hlv;obtain ⟨hlt, ho⟩ := zay ho;cases ho;refine ziu hs hm ha hnew' _ _ fun v w' E' g1 _ g3 => ?_;obtain ⟨k1, k2⟩ := g3 lv hlv;refine hk _ _ ⟨E', ?_⟩;rw [hd];refine (g1.put (zrh hlt) k1 k2).weaken _ (fun t x hx => ?_) (zl9 s D) (zuw hm hs);simp only [St.fs, zbx] at hx;exact hx
   ·rename_i hd;cases ho;refine ziu hs hm ha hnew' _ _ fun v w' E' g1 _ g3 => ?_;refine hk _ _ ⟨E', ?_⟩;rw [hd];exact g1.weaken _ (fun t x hx => hx) (zl9 s D) (zuw hm hs)
   cases ho
  cases ho
 rename_i j want hg;split at ho
 ·rename_i g hgb;have hw := zh7 hg hgb hs;rw [hw];split at ho
  ·rename_i lv p hv;obtain ⟨hd, ho⟩ := zay ho;cases ho;cases g with
   |true =>
    obtain⟨v,h1,h2,h3⟩:=zi9 hs hv (All.map_imp ha rfl);refine zcs h1 (hk _ _ ⟨E,?_⟩);cases hdst:o.dst with
    |none =>exact hs
    |some d =>rw[hdst] at hd;rw[St.put_fs];exact hs.put (zhm hd) (.whn true lv v (fun _=>h2) fun h=>vdf) fun id hm=>by cases hm with|whn _ _ _ _ hm=>exact h3 id hm
   |false =>
    refine hk _ _ ⟨E,?_⟩;cases hdst:o.dst with
    |none =>exact hs
    |some d =>rw[hdst] at hd;rw[St.put_fs];exact hs.put (zhm hd) (.whn false lv undef (fun h=>vdf) fun _=>rfl) fun id hm=>by cases hm with|whn _ _ _ hb _=>cases hb
  split at ho
  ·rename_i D hm;split at ho
   ·rename_i d lv hd hlv;obtain ⟨hc, ho⟩ := zec ho;simp only [oc] at hc;obtain ⟨⟨hlt, hnew⟩, hkeep⟩ := hc;have hnew' : ∀ i ∈ D.new, s.fs.used i = false := fun i hi => (by have := o4.1 hnew i hi;simpa [St.fs] using this);split at ho
    ·rename_i x is hfz;obtain ⟨his, ho⟩ := zay ho;cases ho;have hbk : ∀ i c, look s.blks i = some c → (s.fs.upd D.K D.ub).blk i = some c := by
      intro i c hi;have hmem : ∃y ∈ s.blks, y.1 = i := by
       revert hi;generalize s.blks=l;intro hi;induction l with
       |nil =>simp[look] at hi
       |cons y l ih =>
        by_cases e:y.1=i
        ·grind
        obtain⟨z,hz,e'⟩:=ih (by rw[show(y :: l)=(y.1,y.2) :: l from rfl,zbx] at hi;simpa[Ne.symm e] using hi);grind
      obtain⟨y,hy,e⟩:=hmem;have:=o4.1 hkeep y hy;rw[e] at this;simp only[oc,od,Option.isNone_iff_eq_none] at this;simp only[FS.upd,this.2,this.1];exact hi
     cases g with
     |true =>
      simp only[if_true];refine ziu hs hm (All.map_imp ha rfl) hnew' _ _ fun v w' E' g1 _ g3 => ?_;obtain⟨k1, k2⟩ := g3 lv hlv;refine hk _ _ ⟨E', ?_⟩;rw[hd];have hsub : ∀b, Own s.fs E' X0 b → Own (s.fs.upd D.K D.ub) E' X0 b := Own.sub hbk;have hx : RepC w' w0.heap.size (Own s.fs E' X0) x v := by
       refine zsr g1 hsub hfz (fun k hk b hb hown=>?_) k1;have hkn:=mem_iff.1 (o4.1 his k hk);obtain⟨sz,n,row,hkl⟩:=zxs hfz k hk;rcases hown with h0 | ⟨i,hi⟩
       ·exact g1.xne h0 (by rw [hkl]; simp) hb
       have:=g1.injA i k b (hi.sub hbk) (.inl ⟨by rw[hkl];simp,hb⟩);subst this;have h4:=hnew' i hkn;rw[hs.live i hi.ne] at h4;cases h4
      have hq:=(g1.weaken (σ':=⟨look s.slots,look s.blks,memU (D.new++s.used)⟩) (fun t y hy=>hy) hbk (zuw hm hs));have:=hq.put (zrh hlt) (lv:=.whn true x) (v:=v) (.whn true x v (fun _=>.c _ _ hx) fun h=>vdf) fun id hmm=>(by cases hmm with | whn _ _ _ _ hmm=>exact absurd hmm (hx.noMent id));refine this.weaken _ (fun t y hy=>?_) (fun i c hi=>hi) (fun i hi=>hi);simp only[St.fs,zbx] at hy;exact hy
     |false =>
      simp only[oV,if_false];refine hk _ _ ⟨E,?_⟩;rw[hd];have:=hs.put (zrh hlt) (lv:=.whn false x) (v:=undef) (.whn false x undef (fun h=>vdf) fun _=>rfl) fun id hm=>(by cases hm with | whn _ _ _ hb _=>cases hb);refine this.weaken _ (fun t y hy=>?_) (fun i c hi=>hi) (fun i hi=>?_)
      ·simp only [St.fs, zbx] at hy;exact hy
      show memU (D.new++s.used) i=true;rw[zkb,oj];exact .inr hi
    cases ho
   cases ho
  cases ho
 cases ho

def op1G(P : Program)(N : Nat)(ops : List Oper)(s : St)(o : Oper)(h : Hint) : Option (St × List Prop) :=
  match o.guard,h with
  | some (j, want), .gT h' => match zhp ops (look s.slots) j want, op1 P N ops s { o with guard := none } h' with
    |some g,some (s',vcs)=>some (s',(g=true) :: vcs)
    |_,_=>none
  | some (j, want), .gF => match zhp ops (look s.slots) j want with
    |some g=>bif okDst N o.dst then some (s.put o.dst (.whn false (.bool true)),[g=false]) else none
    |none=>none
  |_,_=>op1 P N ops s o h
theorem zym{ops : List Oper}{s s' : St}{o : Oper}{h : Hint}{vcs : List Prop}(ho : op1G P N ops s o h = some (s', vcs))(ha : All vcs)(hs : H N w0 X0 s a w)(K : Act → World → Prop)(Q : Exit → Act → World → Prop)(hk : ∀a' w', H N w0 X0 s' a' w' → K a' w') : if Region.wanted o (yielded ops.toArray a.tmps) then o.wp P a w K Q else K (a.put o.dst undef) w := by
 unfold op1G at ho;split at ho
 ·rename_i j want h' hg;split at ho
  ·rename_i g s1 v1 h1 h2;cases ho;obtain ⟨ha1, ha2⟩ := ha;obtain ⟨E, hs'⟩ := id hs;have hw := zh7 hg h1 hs';rw [hw, ha1];have := ztj h2 ha2 hs K Q hk;assumption
  cases ho
 ·rename_i j want hg;split at ho
  ·rename_i g h1;obtain ⟨hd, ho⟩ := zay ho;cases ho;obtain ⟨ha1, _⟩ := ha;obtain ⟨E, hs⟩ := hs;have hw := zh7 hg h1 hs;rw [hw, ha1];refine hk _ _ ⟨E, ?_⟩;cases hdst : o.dst with
   |none =>exact hs
   |some d =>rw[hdst] at hd;rw[St.put_fs];exact hs.put (zhm hd) (.whn false (.bool true) undef (fun h=>vdf) fun _=>rfl) fun id hm=>by cases hm with|whn _ _ _ hb _=>cases hb
  cases ho
 exact ztj ho ha hs K Q hk

def ztd(P : Program)(N : Nat)(ops : List Oper)(hints : List (Nat × Hint)) : List Oper → Nat → St → Option (St × List Prop)
  |[],_,s=>some (s,[])
  | o :: r, i, s => match op1G P N ops s o ((look hints i).getD .no) with
    | some (s1, p) => match ztd P N ops hints r (i + 1) s1 with
      |some (s2,q)=>some (s2,p++q)
      |none=>none
    |none=>none

theorem zmo{ops : List Oper}{hints : List (Nat × Hint)}{Q : Exit → Act → World → Prop} : ∀{l : List Oper} {i : Nat} {s s' : St} {vcs : List Prop} {a : Act} {w : World}, ztd P N ops hints l i s = some (s', vcs) → All vcs →
    H N w0 X0 s a w→(∀a' w',H N w0 X0 s' a' w'→Q .normal a' w')→wpList P ops.toArray Q l a w
  |[],i,s,s',vcs,a,w,hr,ha,hs,hq=>by cases hr;exact hq a w hs
  |o :: l, i, s, s', vcs, a, w, hr, ha, hs, hq => by
    simp only[ztd] at hr
    split at hr
    · rename_i s1 p h1
      split at hr
      · rename_i s2 q h2
        cases hr
        obtain⟨hp,hq'⟩:=All.append.1 ha
        exact wpList_step fun K hK=>zym h1 hp hs K Q fun a' w' hs'=>hK a' w' (zmo h2 hq' hs' hq)
      · cases hr
    · cases hr

end
end Go.Lite
