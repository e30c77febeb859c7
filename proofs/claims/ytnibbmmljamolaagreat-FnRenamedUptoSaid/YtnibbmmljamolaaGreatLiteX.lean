/- One operation's doing over claims given as functions: for regions whose order is left open. Conditions: none; over any program. -/
import Derived.Test.YtnibbmmljamolaaGreatLiteM
set_option linter.unusedVariables false
namespace Go.Lite
open Go Go.RowKit

def zo7 : Op → Bool
  |.call { callee:=.value _,.. }=>true
  |_=>false
def notM : Hint → Bool
  |.resM _ _ _ _=>false
  |_=>true
def flat1 : LV → Bool
  |.int _ _=>true
  |.bool _=>true
  |.str _=>true
  |_=>false
def frzA(blk : Nat → Option BC)(v : LV) : Option (LV × List Nat) :=
  match v with
  |.agg l=>bif l.all flat1 then some (.agg l,[]) else none
  |v=>frz blk v
theorem zy2{blk:Nat→Option BC}{v x:LV}{is:List Nat}(h:frzA blk v=some (x,is)):frz blk v=some (x,is)∨∃l,v=.agg l∧x=.agg l∧is=[]∧l.all flat1=true:=by unfold frzA at h;grind
theorem z3v{w : World}{B B' : Nat}{X X' : Nat → Prop}{E : Env}{l : List LV}{u : Value}(hl : l.all flat1 = true)(h : RepV w B X E (.agg l) u) : RepC w B' X' (.agg l) u := by
 obtain⟨vs,rfl,hs,hv⟩:=h.agg_inv;refine .agg l vs hs fun i lv v hi hv'=>?_;have h1:=hv i lv v hi hv';have h2:=o4.1 hl lv (oY hi);cases lv with
 |int k n =>rw[h1.int_inv];exact .int k n
 |bool b =>rw[h1.bool_inv];exact .bool b
 |str s =>rw[h1.str_inv];exact .str s
 |_ =>cases h2
def zlm(P : Program)(ops : List Oper)(sl : Nat → Option LV)(blk : Nat → Option BC)(o : Oper)(h : Hint) : Option MD :=
  match o.guard with
  | none => match vopA P o sl blk h with
    |some (lv,p)=>some ⟨some lv,noK,fun _=>none,[],p⟩
    |none=>mop P o sl blk h
  | some (j, want) => match zhp ops sl j want with
    | some g => match vopA P o sl blk h with
      |some (lv,p)=>some ⟨some (.whn g lv),noK,fun _=>none,[],p.map fun t=>g=true→t⟩
      | none => bif zo7 o.op && notM h then match mop P o sl blk h with
        | some D => match D.dst with
          | some lv => match frzA D.ub lv with
            |some (x,is)=>bif is.all (fun i=>mem D.new i) then some ⟨some (.whn g x),noK,fun _=>none,D.new,D.vcs.map fun t=>g=true→t⟩ else none
            |none=>none
          |none=>none
        |none=>none
        else none
    |none=>none

section
variable {P:Program} {sl sl':Nat→Option LV} {blk blk':Nat→Option BC} {ops:List Oper} {o:Oper} {h:Hint}

theorem zkj(hs : Le sl sl'){j : Nat}{want g : Bool}(hg : zhp ops sl j want = some g) : zhp ops sl' j want = some g := by
 unfold zhp at hg ⊢;split at hg
 ·split at hg
  ·split at hg
   ·rename_i h1; rw [hs _ _ h1]; exact hg
   ·rename_i h1; rw [hs _ _ h1]; exact hg
   cases hg
  cases hg
 cases hg

theorem zpe(hs : Le sl sl')(hb : Le blk blk'){D : MD}(hd : zlm P ops sl blk o h = some D) : zlm P ops sl' blk' o h = some D := by
 unfold zlm at hd ⊢;split at hd
 ·split at hd
  ·rename_i h1;rw [zs8 hs hb h1]; exact hd
  rename_i h1;rw[zxb (sl':=sl') (blk':=blk') hs hb hd];exact zxa hs hb hd
 split at hd
 ·rename_i g hg;rw [zkj hs hg];split at hd
  ·rename_i h1;rw [zs8 hs hb h1]; exact hd
  obtain⟨hc,hd⟩:=zec hd;split at hd
  ·rename_i D' hm;rw [zxb (sl' := sl') (blk' := blk') hs hb hm, zxa hs hb hm];grind
  cases hd
 cases hd

theorem zqy{D : MD}(hc : (zo7 o.op && notM h) = true)(hm : mop0 P o sl blk h = some D) : D.K = noK ∧ ∀i, D.ub i ≠ none → i ∈ D.new := by
 unfold mop0 at hm;split at hm;all_goals first|(rename_i ho _;rw[ho] at hc;cases hc;done)|skip
 ·rename_i f args tys d ho hd;split at hm
  ·split at hm
   ·obtain ⟨_, hm⟩ := zay hm;subst hm;exact ⟨rfl, fun i hi => zrt hi⟩
   cases hm
  ·simp [notM] at hc
  ·simp [notM] at hc
  ·split at hm
   ·obtain ⟨_, hm⟩ := zay hm;subst hm;exact ⟨rfl, fun i hi => zrt hi⟩
   cases hm
  cases hm
 ·split at hm
  ·simp [notM] at hc
  ·simp [notM] at hc
  cases hm
 cases hm

theorem z4c{D:MD}(hm:mop0 P o sl blk h=some D):∀i,D.K i=true→blk i≠none:=by unfold mop0 at hm;intro i hi;have kill:∀(l:List Nat),(∀k∈l,∃sz n row,blk k=some (.arr sz n row))→killL l i=true→blk i≠none:=fun l hl hk=>(by obtain⟨_,_,_,e⟩:=hl i (killL_mem.1 hk);rw[e];simp);(repeat' split at hm);all_goals first|(cases hm;done)|exact(zuo hm).2 i hi|(simp only[ou] at hm;obtain⟨cs,hcs,rfl⟩:=hm;cases hi;done)|(obtain⟨_,hm⟩:=zay hm;subst hm;cases hi;done)|(cases hm;cases hi;done)|(have hf:=‹frzL blk _=some _›;obtain⟨_,hm⟩:=zay hm;subst hm;exact kill _ (zlh (σ:=⟨sl,blk,fun _=>false⟩) hf) hi)|(have hf:=‹frzP blk _=some _›;obtain⟨_,hm⟩:=zay hm;subst hm;exact kill _ (zi1 (σ:=⟨sl,blk,fun _=>false⟩) hf) hi)|(have hf:=‹frzP blk _=some _›;obtain⟨_,hm⟩:=zec hm;have hm:=zay hm;obtain⟨_,hm⟩:=hm;subst hm;exact kill _ (zi1 (σ:=⟨sl,blk,fun _=>false⟩) hf) hi)|(have hf:=‹frzP blk _=some _›;obtain⟨_,hm⟩:=zec hm;cases hm;exact kill _ (zi1 (σ:=⟨sl,blk,fun _=>false⟩) hf) hi)|(have hf:=‹blk _=some (.arr _ _ _)›;obtain⟨_,hm⟩:=zay hm;subst hm;exact kill _ (fun k hk=>by have e:=oT.1 hk;subst e;exact⟨_,_,_,hf⟩) hi)


theorem zyx{D:MD}(hc:(zo7 o.op&&notM h)=true)(hm:mopN P o sl blk h=some D):D.K=noK∧∀i,D.ub i≠none→i∈D.new:=by unfold mopN at hm;split at hm;all_goals first|(rename_i ho _;rw[ho] at hc;cases hc;done)|(cases hm;done)
theorem z0l{D : MD}(hc : (zo7 o.op && notM h) = true)(hm : mop P o sl blk h = some D) : D.K = noK ∧ ∀i, D.ub i ≠ none → i ∈ D.new := by
 rcases ziw hm with hm | ⟨wk,id,n,row,D0,hi0,e,h0,h1⟩ | hm
 ·exact zqy hc hm
 rotate_left
 ·exact zyx hc hm
 obtain⟨sz,n0,row0,hu,rfl⟩:=znf h1;obtain⟨k1,k2⟩:=zqy (h:=hi0) (by rcases e with⟨rfl,rfl⟩ | ⟨rfl,rfl⟩<;>simpa[notM] using hc) h0;exact⟨k1,fun i hi=>k2 i (z37 hu hi)⟩
theorem mop_K{D : MD}(hm : mop P o sl blk h = some D) : ∀i, D.K i = true → blk i ≠ none := by
 rcases ziw hm with hm | ⟨wk,id,n,row,D0,hi0,e,h0,h1⟩ | hm
 ·exact z4c hm
 rotate_left
 ·exact (zxc hm).2
 obtain⟨sz,n0,row0,hu,rfl⟩:=znf h1;exact fun i hi=>z4c (D:=D0) h0 i hi
theorem zjj{D : MD}(hd : zlm P ops sl blk o h = some D) : (∀i, D.ub i ≠ none → i ∈ D.new ∨ blk i ≠ none) ∧ ∀i, D.K i = true → blk i ≠ none := by
 unfold zlm at hd;split at hd
 ·split at hd
  ·cases hd; exact ⟨fun i hi => absurd rfl hi, fun i hi => by cases hi⟩
  exact⟨z0k hd,mop_K hd⟩
 split at hd
 ·split at hd
  ·cases hd; exact ⟨fun i hi => absurd rfl hi, fun i hi => by cases hi⟩
  obtain⟨hc,hd⟩:=zec hd;repeat' split at hd
  all_goals first|(cases hd;done)|(obtain⟨_,hd⟩:=zay hd;subst hd;exact⟨fun i hi=>absurd rfl hi,fun i hi=>by cases hi⟩)
 cases hd

def FS.dl(σ : FS)(d : Option Nat)(D : MD) : FS :=
  ⟨fun t=>if d=some t then D.dst else σ.slot t,(σ.upd D.K D.ub).blk,fun i=>mem D.new i||σ.used i⟩

variable {N:Nat} {w0:World} {X0:Fr} {σ:FS} {E:Env} {a:Act} {w:World}

theorem Sat.dlPut{D : MD}{v : Value}(g1 : Sat N w0 X0 (σ.upd D.K D.ub) E a w)(hdom : ∀i, (σ.upd D.K D.ub).used i = true → mem D.new i = true ∨ σ.used i = true){d : Option Nat}(hd : okDst N d = true)(hv : ∀lv, D.dst = some lv → RepV w w0.heap.size (Own (σ.upd D.K D.ub) E X0) E lv v ∧ ∀id, Ment lv id → (σ.upd D.K D.ub).used id = true) : Sat N w0 X0 (σ.dl d D) E (a.put d v) w := by
 have hu:∀i,(σ.upd D.K D.ub).used i=true→(σ.dl d D).used i=true:=fun i hi=>by simp only[FS.dl];grind
 cases d with
 |none =>refine g1.weaken _ (fun t lv ht=>?_) (fun i c hi=>hi) hu;assumption
 |some d =>
  cases hD:D.dst with
  |none =>
   refine⟨by simpa[Act.put] using g1.size,g1.defers,g1.below,fun t lv ht=>?_,g1.blks,g1.injA,fun i hi=>hu i (g1.live i hi),fun t lv id ht hm=>?_,fun i cells lv id hi hl hm=>hu id (g1.wfb i cells lv id hi hl hm),fun i wd cl sz n rows k id hi hk hr=>hu id (g1.wfn i wd cl sz n rows k id hi hk hr),g1.baseA,g1.bown,g1.pin,fun i hi=>hu i (g1.pu i hi),g1.szf,g1.gh,g1.xge⟩
   ·simp only [FS.dl, oq] at ht;by_cases e : d = t
    ·grind
    simp only[e] at ht;have e2:(a.put (some d) v).tmps.getD t undef=a.tmps.getD t undef:=(by simp[Act.put,Array.getElem?_setIfInBounds_ne e]);rw[e2];exact g1.slots t lv ht
   simp only[FS.dl,oq] at ht;by_cases e:d=t
   ·grind
   simp only[e] at ht;exact hu id (g1.wfs t lv id ht hm)
  |some lv =>
   obtain⟨k1,k2⟩:=hv lv hD;refine(g1.put (zhm hd) k1 k2).weaken _ (fun t x hx=>?_) (fun i c hi=>hi) hu;simp only[FS.dl,oq] at hx;simp only[FS.put];by_cases e:d=t
   ·grind
   simp only[e] at hx;simp only[Ne.symm e];exact hx

theorem zo9{j : Nat}{want g : Bool}(hg : o.guard = some (j, want))(hgb : zhp ops σ.slot j want = some g)(hs : Sat N w0 X0 σ E a w) : Region.wanted o (yielded ops.toArray a.tmps) = g := by
 unfold zhp at hgb;split at hgb
 ·rename_i o' ho;split at hgb
  ·rename_i t ht;have hget : ∀ v, a.tmps.getD t undef = v → v ≠ undef → a.tmps[t]? = some v := (by intro v hv hne;rw [Array.getD_eq_getD_getElem?] at hv;grind);have hyt : ∀ b, a.tmps.getD t undef = .bool b → yielded ops.toArray a.tmps j = some b := vbM;have hyf : a.tmps.getD t undef = undef → yielded ops.toArray a.tmps j = none := by
    intro hb;rw[Array.getD_eq_getD_getElem?] at hb;cases h1:a.tmps[t]? with
    |none =>simp[yielded,ho,ht,h1]
    |some u =>rw[h1] at hb;simp at hb;simp[yielded,ho,ht,h1,hb,undef]
   split at hgb
   ·rename_i b hb;cases hgb;have := (hs.slots t _ hb).bool_inv;rw [Region.wanted, hg];grind
   ·rename_i c b hb;cases hgb;have hr := hs.slots t _ hb;rw [Region.wanted, hg];cases c with
    |true =>
     have hb' : a.tmps.getD t undef = .bool b := by
      cases hr with
      |c _ _ h =>cases h
      |whn _ _ _ h1 _ =>exact(h1 rfl).bool_inv
     simp only[hyt b hb'];cases b<;>cases want<;>rfl
    |false =>
     have hb' : a.tmps.getD t undef = undef := by
      cases hr with
      |c _ _ h =>cases h
      |whn _ _ _ _ h2 =>exact h2 rfl
     grind
   cases hgb
  cases hgb
 cases hgb

theorem zj2(σ:FS):σ.upd noK (fun _=>none)=σ:=by cases σ;simp[FS.upd,noK]

theorem zmv{D : MD}(hs : Sat N w0 X0 σ E a w)(hd : zlm P ops σ.slot σ.blk o h = some D)(ha : All D.vcs)(hnew : ∀i ∈ D.new, σ.used i = false)(hN : okDst N o.dst = true)(K : Act → World → Prop)(Q : Exit → Act → World → Prop)(hk : ∀a' w' E', Sat N w0 X0 (σ.dl o.dst D) E' a' w' → K a' w') : if Region.wanted o (yielded ops.toArray a.tmps) then o.wp P a w K Q else K (a.put o.dst undef) w := by
 have hdm := zjj hd;have hu : ∀i, (σ.upd D.K D.ub).used i = true → mem D.new i = true ∨ σ.used i = true := fun i hi => by
  simp only[FS.upd,oj,Option.isSome_iff_ne_none] at hi;rcases hi with hi | hi
  ·rcases hdm.1 i hi with h1 | h1
   ·exact .inl (mem_iff.2 h1)
   exact .inr (hs.live i h1)
  grind
 unfold zlm at hd;split at hd
 ·rename_i hg;have hw : Region.wanted o (yielded ops.toArray a.tmps) = true := by rw [Region.wanted, hg]
  rw[if_pos hw];split at hd
  ·rename_i lv p hv;cases hd;obtain ⟨v, h1, h2, h3⟩ := zi9 hs hv ha;refine zcs h1 (hk _ _ E (Sat.dlPut (by rw [zj2]; exact hs) hu hN fun lv' e => ?_));cases e;rw [zj2]; exact ⟨h2, h3⟩
  refine ziu hs hd ha hnew _ _ fun v w' E' g1 _ g3=>?_;exact hk _ _ E' (Sat.dlPut g1 hu hN g3)
 rename_i j want hg;split at hd
 ·rename_i g hgb;have hw := zo9 hg hgb hs;rw [hw];split at hd
  ·rename_i lv p hv;cases hd;cases g with
   |true =>obtain⟨v,h1,h2,h3⟩:=zi9 hs hv (All.map_imp ha rfl);refine zcs h1 (hk _ _ E (Sat.dlPut (by rw[zj2];exact hs) hu hN fun lv' e=>?_));cases e;exact⟨.whn true lv v (fun _=>h2) (fun h=>vdf),fun id hm=>by cases hm with|whn _ _ _ _ hm=>exact h3 id hm⟩
   |false =>refine hk _ _ E (Sat.dlPut (by rw[zj2];exact hs) hu hN fun lv' e=>?_);cases e;exact⟨.whn false lv undef (fun h=>vdf) fun _=>rfl,fun id hm=>by cases hm with|whn _ _ _ hb _=>cases hb⟩
  obtain⟨hc,hd⟩:=zec hd;split at hd
  ·rename_i D' hm;obtain ⟨q1, q2⟩ := z0l hc hm;split at hd
   ·rename_i lv hlv;split at hd
    ·rename_i x is hfz;obtain ⟨his, hd⟩ := zay hd;subst hd;cases g with
     |true =>
      refine ziu hs hm (All.map_imp ha rfl) hnew _ _ fun v w' E' g1 _ g3 => ?_;obtain⟨k1, k2⟩ := g3 lv hlv;have hbk : ∀i c, σ.blk i = some c → (σ.upd D'.K D'.ub).blk i = some c := by
       intro i c hi;have h1 : D'.ub i = none := by
        cases hub:D'.ub i with
        |none =>rfl
        |some c' =>have:=hnew i (q2 i (by rw[hub];simp));rw[hs.live i (by rw[hi];simp)] at this;cases this
       simp only[FS.upd,h1,q1,noK];grind
      have hsub : ∀b, Own σ E' X0 b → Own (σ.upd D'.K D'.ub) E' X0 b := Own.sub hbk;have hx : RepC w' w0.heap.size (Own σ E' X0) x v := by
       rcases zy2 hfz with hfz | ⟨l9,e7,e8,e9,hl9⟩;case inr=>rw[e7] at k1;rw[e8];exact z3v hl9 k1
       have hfz':frz (σ.upd D'.K D'.ub).blk lv=some (x,is):=zxr (fun i c hi=>by simp only[FS.upd,hi]) hfz;refine zsr g1 hsub hfz' (fun k hk b hb hown=>?_) k1;have hkn:=mem_iff.1 (o4.1 his k hk);obtain⟨sz,n,row,hkl⟩:=zxs hfz' k hk;rcases hown with h0 | ⟨i,hi⟩
       ·exact g1.xne h0 (by rw [hkl]; simp) hb
       have:=g1.injA i k b (hi.sub hbk) (.inl ⟨by rw[hkl];simp,hb⟩);subst this;have h4:=hnew i hkn;rw[hs.live i hi.ne] at h4;cases h4
      have hq : Sat N w0 X0 ⟨σ.slot, σ.blk, fun i => mem D'.new i || σ.used i⟩ E' a w' := g1.weaken _ (fun t y hy => hy) hbk (fun i hi => by
        simp only[FS.upd,oj,Option.isSome_iff_ne_none] at hi
        simp only[oj]
        rcases hi with hi | hi
        · exact .inl (mem_iff.2 (q2 i hi))
        · exact .inr hi)
      have hq2 := Sat.dlPut (D := ⟨some (.whn true x), noK, fun _ => none, [], []⟩) (d := o.dst) (v := v) (by rw [zj2]; exact hq) (fun i hi => .inr (by simpa [FS.upd] using hi)) hN (fun lv' e => by
        cases e
        exact⟨.whn true x v (fun _=>.c _ _ hx) (fun h=>vdf),fun id hmm=>by cases hmm with | whn _ _ _ _ hmm=>exact absurd hmm (hx.noMent id)⟩)
      refine hk _ _ E' (hq2.weaken _ (fun t y hy=>hy) (fun i c hi=>by simpa[FS.dl,FS.upd,noK] using hi) fun i hi=>by simpa[FS.dl,mem,FS.upd] using hi)
     |false =>simp only[oV,if_false];refine hk _ _ E (Sat.dlPut (by rw[zj2];exact hs) hu hN fun lv' e=>?_);cases e;exact⟨.whn false x undef (fun h=>vdf) fun _=>rfl,fun id hm=>by cases hm with|whn _ _ _ hb _=>cases hb⟩
    cases hd
   cases hd
  cases hd
 cases hd
def delta(P : Program)(ops : List Oper)(sl : Nat → Option LV)(blk : Nat → Option BC)(o : Oper)(h : Hint) : Option MD :=
  match o.guard,h with
  | some (j, want), .gT h' => match zhp ops sl j want, zlm P ops sl blk { o with guard := none } h' with
    |some g,some D=>some { D with vcs:=(g=true) :: D.vcs }
    |_,_=>none
  | some (j, want), .gF => match zhp ops sl j want with
    |some g=>some ⟨some (.whn false (.bool true)),noK,fun _=>none,[],[g=false]⟩
    |none=>none
  |_,_=>zlm P ops sl blk o h
theorem zra{sl sl' : Nat → Option LV}{blk blk' : Nat → Option BC}{ops : List Oper}{o : Oper}{h : Hint}(hs : Le sl sl')(hb : Le blk blk'){D : MD}(hd : delta P ops sl blk o h = some D) : delta P ops sl' blk' o h = some D := by
 unfold delta at hd ⊢;split at hd
 ·split at hd
  ·rename_i h1 h2;simp only [zkj hs h1, zpe hs hb h2]; exact hd
  cases hd
 ·split at hd
  ·rename_i h1;simp only [zkj hs h1]; exact hd
  cases hd
 exact zpe hs hb hd
theorem zul{sl : Nat → Option LV}{blk : Nat → Option BC}{ops : List Oper}{o : Oper}{h : Hint}{D : MD}(hd : delta P ops sl blk o h = some D) : (∀i, D.ub i ≠ none → i ∈ D.new ∨ blk i ≠ none) ∧ ∀i, D.K i = true → blk i ≠ none := by
 unfold delta at hd;split at hd
 ·split at hd
  ·rename_i h1 h2;cases hd;exact ⟨(zjj h2).1, (zjj h2).2⟩
  cases hd
 ·split at hd
  ·cases hd; exact ⟨fun i hi => absurd rfl hi, fun i hi => by cases hi⟩
  cases hd
 exact zjj hd
theorem zv4{D : MD}(hs : Sat N w0 X0 σ E a w)(hd : delta P ops σ.slot σ.blk o h = some D)(ha : All D.vcs)(hnew : ∀i ∈ D.new, σ.used i = false)(hN : okDst N o.dst = true)(K : Act → World → Prop)(Q : Exit → Act → World → Prop)(hk : ∀a' w' E', Sat N w0 X0 (σ.dl o.dst D) E' a' w' → K a' w') : if Region.wanted o (yielded ops.toArray a.tmps) then o.wp P a w K Q else K (a.put o.dst undef) w := by
 have hdm := zul hd;have hu : ∀i, (σ.upd D.K D.ub).used i = true → mem D.new i = true ∨ σ.used i = true := fun i hi => by
  simp only[FS.upd,oj,Option.isSome_iff_ne_none] at hi;rcases hi with hi | hi
  ·rcases hdm.1 i hi with h1 | h1
   ·exact .inl (mem_iff.2 h1)
   exact .inr (hs.live i h1)
  grind
 unfold delta at hd;split at hd
 ·rename_i j want h' hg;split at hd
  ·rename_i g D0 h1 h2;cases hd;obtain ⟨ha1, ha2⟩ := ha;have hw := zo9 hg h1 hs;rw [hw, ha1];have := zmv hs h2 ha2 hnew hN K Q hk;assumption
  cases hd
 ·rename_i j want hg;split at hd
  ·rename_i g h1;cases hd;obtain ⟨ha1, _⟩ := ha;have hw := zo9 hg h1 hs;rw [hw, ha1];refine hk _ _ E (Sat.dlPut (by rw [zj2]; exact hs) hu hN fun lv' e => ?_);cases e;exact ⟨.whn false _ undef (fun h => vdf) fun _ => rfl, fun id hm => by cases hm with | whn _ _ _ hb _ => cases hb⟩
  cases hd
 exact zmv hs hd ha hnew hN K Q hk
end
end Go.Lite
