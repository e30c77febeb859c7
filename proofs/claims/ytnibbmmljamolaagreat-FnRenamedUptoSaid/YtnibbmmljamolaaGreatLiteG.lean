/- Functions entered and left: from the code's rules to a contract. Conditions: none; over any program. -/
import Derived.Test.YtnibbmmljamolaaGreatLiteF
import Derived.Laws.Sem
set_option linter.unusedVariables false
set_option linter.unusedSimpArgs false
namespace Go.Lite
open Go Go.RowKit

def noX:Fr:=⟨fun _=>none,fun _=>False,fun _=>none,fun _ _=>rfl,0⟩

def resL(P : Program)(sl : Nat → Option LV)(blk : Nat → Option BC) : ResultVar → Option (LV × List Prop)
  |.tmp t=>ev sl (.tmp t)
  | .cell t T => match sl t with
    | some (.vp id off) => match blk id with
      |some (.var cells)=>(loadL P T cells off).map fun v=>(v,[])
      |_=>none
    |_=>none
def resLs(P : Program)(sl : Nat → Option LV)(blk : Nat → Option BC) : List ResultVar → Option (List LV × List Prop)
  |[]=>some ([],[])
  | x :: r => match resL P sl blk x, resLs P sl blk r with
    |some (v,p),some (vs,q)=>some (v :: vs,p++q)
    |_,_=>none
def oneOr : List LV → LV
  |[x]=>x
  |l=>.tup l
def enumB : List BC → Nat → List (Nat × BC)
  |[],_=>[]
  |c :: r,i=>(i,c) :: enumB r (i+1)
def isArr : BC → Bool
  |.arr _ _ _=>true
  |.var _=>false
  |.mp _ _=>false
  |.nest _ cl _ _ _=>cl
  |.bld _ _ _=>false
def FrsN : NR → Prop
  |.row m r=>∀k,k<m→FrsL (r k)
  |.cell v=>Frs v
  |_=>True
def FrsB : BC → Prop
  |.arr _ n row=>∀k,k<n→FrsL (row k)
  |.var _=>False
  |.mp _ _=>False
  |.nest wd _ _ n rows=>∀k,k<cN wd n→FrsN (rows k)
  |.bld _ _ _=>False
def enumL : List LV → Nat → List (Nat × LV)
  |[],_=>[]
  |c :: r,i=>(i,c) :: enumL r (i+1)

theorem zmc : ∀(l : List BC) (k i : Nat), look (enumB l k) i = if k ≤ i then l[i - k]? else none
  |[],k,i=>by simp[enumB,look]
  |c :: l, k, i => by
    rw[enumB,zbx]
    simp only
    rw[zmc l (k+1) i]
    grind
theorem zmb : ∀(l : List LV) (k i : Nat), look (enumL l k) i = if k ≤ i then l[i - k]? else none
  |[],k,i=>by simp[enumL,look]
  |c :: l, k, i => by
    rw[enumL,zbx]
    simp only
    rw[zmb l (k+1) i]
    grind

def retL(P : Program)(fn : Func)(s : St)(g : List (Nat × Option Nat))(r : LV)(arrs : List BC) : Option (List Prop) :=
  match resLs P (look s.slots) (look s.blks) fn.results.toList with
  |some (l, p) =>
    let T:St:=⟨[],enumB arrs 0,List.range arrs.length⟩
    match zjy g (fzOf (imgs g T.blks) (look s.blks)) (look s.blks) T.blks,cmp g (fzOf (imgs g T.blks) (look s.blks)) (oneOr l) r with
    |some q,some q'=>bif okT g T&&(zgj (mem T.used) r&&arrs.all isArr) then some (p++(q++(q'++(Frs r :: arrs.map FrsB)))) else none
    |_,_=>none
  |none=>none

def RetOk(P : Program)(fn : Func)(w0 : World)(r : LV)(arrs : List BC) : AP := fun a w =>
  a.defers=[]∧∃v,(results fn a.tmps).run P w=.ok v w∧Below w0.heap.size w0 w∧ResOk w w0.heap.size r arrs v

section
variable {P:Program} {N:Nat} {w0 w:World} {X0:Fr} {σ:FS} {E:Env} {a:Act}

theorem RepV.frsV{B : Nat}{X : Nat → Prop}{lv : LV}{v : Value}(h : RepV w B X E lv v)(hf : Frs lv) : RepV w B (fun b => b < B ∨ X b) E lv v := by
 induction h with
 |c _ _ h =>exact .c _ _ (h.frs hf)
 |vp =>exact absurd hf vc7
 |ap =>exact absurd hf vc7
 |mp =>exact absurd hf vc7
 |clo =>exact absurd hf vc7
 |whn =>exact absurd hf vc7
 |ifc t lv v _ ih =>exact .ifc t lv v (ih vcL)
 |own id =>exact .own id
 |agg l vs hl _ ih =>exact .agg l vs hl fun i x u hx hu=>ih i x u hx hu (zg6 vcL i x hx)
 |tup l vs hl _ ih =>exact .tup l vs hl fun i x u hx hu=>ih i x u hx hu (zg6 vcL i x hx)

theorem BlkOk.frsV{B : Nat}{X : Nat → Prop}{i : Nat}{c : BC}(h : BlkOk w B X E i c)(hf : FrsB c) : BlkOk w B (fun b => b < B ∨ X b) E i c := by
 cases c with
 |var cells =>exact absurd hf (by simp[FrsB])
 |mp kd m =>exact absurd hf (by simp[FrsB])
 |bld T e s =>exact absurd hf (by simp[FrsB])
 |arr sz n row =>
  refine⟨h.1,?_⟩;rcases h.2 with h1 | ⟨b,cap,vs,T,h1,h2,h3,h4,h5,h6,h7,h8⟩
  ·grind
  exact .inr ⟨b,cap,vs,T,h1,h2,h3,h4,h5,h6,h7,fun k hk=>⟨(h8 k hk).1,(h8 k hk).2.1,fun j lv v hl hv=>((h8 k hk).2.2 j lv v hl hv).frs (zg6 (hf k hk) j lv hl)⟩⟩
 |nest wd cl sz n rows =>
  obtain⟨ek,g1,g2,g3⟩:=h;refine⟨ek,g1,g2,?_⟩;rcases g3 with h1 | ⟨b,cap,vs,T,h1,h2,h3,h4,h5,h6,h7,h8⟩
  ·exact .inl h1
  refine .inr ⟨b,cap,vs,T,h1,h2,h3,h4,h5,h6,h7,fun k hk=>?_⟩;have q:=h8 k hk;have f:=hf k hk;cases hr:rows k with
  |out id =>rw[hr] at q;exact q
  |gone =>rw[hr] at q;exact q
  |cell v =>rw[hr] at q f;exact⟨q.1,q.2.frs f⟩
  |row m r =>
   rw[hr] at q f;refine⟨q.1,q.2.1,?_⟩;rcases q.2.2 with h1 | ⟨b,cap,vs,T,h1,h2,h3,h4,h5,h6,h7,h8⟩
   ·exact .inl h1
   exact .inr ⟨b,cap,vs,T,h1,h2,h3,h4,h5,h6,h7,fun k hk=>⟨(h8 k hk).1,(h8 k hk).2.1,fun j lv v hl hv=>((h8 k hk).2.2 j lv v hl hv).frs (zg6 (f k hk) j lv hl)⟩⟩

def rv(tmps : Array Value) : ResultVar → Sem Value
  |.tmp t=>pure (tmps.getD t undef)
  |.cell a t=>do loadVar t (←asAddr (tmps.getD a undef))

theorem z2x(hs : Sat N w0 X0 σ E a w){x : ResultVar}{lv : LV}{p : List Prop}(h : resL P σ.slot σ.blk x = some (lv, p))(ha : All p) : (∃v, (rv a.tmps x).run P w = .ok v w ∧ RepV w w0.heap.size (Own σ E X0) E lv v) ∧ ∀id, Ment lv id → σ.used id = true := by
 unfold resL at h;split at h
 ·rename_i t;obtain ⟨h1, h2⟩ := zao hs h ha;exact ⟨⟨_, rfl, h1⟩, h2⟩
 rename_i t T;split at h
 ·rename_i id off hsl;split at h
  ·rename_i cells hb;simp only [ou] at h;obtain ⟨lv', hl, rfl, rfl⟩ := h;obtain ⟨b, g1, g2⟩ := (hs.slots t _ hsl).vp_inv;obtain ⟨b', vs, T', k1, k2, k3, k4, k5⟩ := hs.blks id _ hb;rw [g1] at k1; cases k1
   obtain ⟨⟨v, m1, m2⟩, m3⟩ := ztw (P := P) (w := w) (B := w0.heap.size) (X := Own σ E X0) (E := E) hl (ad := ⟨b, 0, none⟩) (cv := fun j => vs.getD j undef) (fun j hj => by
     rw[zbv,Nat.zero_add]
     have hj':j<vs.size:=vdh
     simp[World.cell?,k3,hj']) (fun j y hy=>by
     have hj:j<vs.size:=vdi
     exact k5 j y _ hy (by simp[hj]))
   refine⟨⟨v,?_,m2⟩,fun i hm=>?_⟩
   ·rw [zbv, Nat.zero_add] at m1;simp only [rv, oF, g2, asAddr, oL, oA, m1]
   obtain⟨y,hy,hyy⟩:=m3 i hm;exact hs.wfb id cells y i hb hy hyy
  cases h
 cases h

theorem znz(hs : Sat N w0 X0 σ E a w) : ∀{l : List ResultVar} {xs : List LV} {p : List Prop}, resLs P σ.slot σ.blk l = some (xs, p) → All p →
    ∃vs:List Value,(l.mapM (rv a.tmps)).run P w=.ok vs w∧vs.length=xs.length∧∀(i:Nat) lv v,xs[i]?=some lv→vs[i]?=some v→RepV w w0.heap.size (Own σ E X0) E lv v
  |[],xs,p,h,ha=>by cases h;exact⟨[],rfl,rfl,fun i lv v h=>vdb⟩
  |x :: l, xs, p, h, ha => by
    simp only[resLs] at h
    split at h
    · rename_i v1 p1 vs1 q1 h1 h2
      cases h
      obtain⟨a1,a2⟩:=All.append.1 ha
      obtain⟨⟨v,k1,k2⟩,_⟩:=z2x hs h1 a1
      obtain⟨vs,m1,m2,m3⟩:=znz hs h2 a2
      refine⟨v :: vs,?_,by simp[m2],fun i lv u hi hu=>?_⟩
      · simp_all
      · grind
    · cases h

theorem zny{fn:Func}{vs:List Value}(h:(fn.results.toList.mapM (rv a.tmps)).run P w=.ok vs w):(results fn a.tmps).run P w=.ok (if h:vs.length=1 then vs[0] else .tuple vs.toArray) w:=by have e:(results fn a.tmps)=(do let vs ←fn.results.mapM (rv a.tmps);pure (if h:vs.size=1 then vs[0] else .tuple vs)):=(by congr 1);rw[e];rw[Array.mapM_eq_mapM_toList,oF,Sem.run_map,h];simp_all

theorem ztl{B : Nat}{X : Nat → Prop}{l : List LV}{vs : List Value}(hl : vs.length = l.length)(h : ∀(i : Nat) lv v, l[i]? = some lv → vs[i]? = some v → RepV w B X E lv v) : RepV w B X E (oneOr l) (if h : vs.length = 1 then vs[0] else .tuple vs.toArray) := by
 by_cases h1:vs.length=1
 ·rw [dif_pos h1];match vs, h1 with
  |[v], _ =>
   match l,hl with
   |[x],_ =>exact h 0 x v rfl rfl
 rw[dif_neg h1];have e : oneOr l = .tup l := by
  match l,hl with
  |[],_ =>rfl
  |[x],hl =>exact absurd hl h1
  |x :: y :: r,_ =>rfl
 rw[e];exact .tup l _ vcX fun i lv v hi hv=>h i lv v hi (by simpa using hv)

theorem All.cons{p:Prop}{l:List Prop}:All (p :: l)↔p∧All l:=Iff.rfl
theorem All.mem_map{α : Type}{f : α → Prop} : ∀{l : List α}, All (l.map f) → ∀x ∈ l, f x
  |[],_,x,hx=>by cases hx
  |y :: l, h, x, hx => by
    rcases oS.1 hx with e | hx
    · rw [e];exact h.1
    · exact All.mem_map h.2 x hx

theorem ret_ok{fn : Func}{s : St}(hs : H N w0 noX s a w)(g : List (Nat × Option Nat)){r : LV}{arrs : List BC}{vcs : List Prop}(h : retL P fn s g r arrs = some vcs)(ha : All vcs) : RetOk P fn w0 r arrs a w := by
 obtain⟨E,hs⟩:=hs;unfold retL at h;split at h
 ·rename_i l p h1;simp only at h;split at h
  ·rename_i q q' h2 h3;obtain ⟨hc, h⟩ := zay h;subst h;obtain ⟨a1, ha⟩ := All.append.1 ha;obtain ⟨a2, ha⟩ := All.append.1 ha;obtain ⟨a3, ha⟩ := All.append.1 ha;simp only [oc] at hc;obtain ⟨c1, c2, c3⟩ := hc;obtain ⟨vs, k1, k2, k3⟩ := znz hs h1 a1;obtain ⟨d1, d2, d3⟩ := z0t (T := ⟨[], enumB arrs 0, List.range arrs.length⟩) c1 rfl h2 trivial a2 hs;have hr := zgn hs d2 d3 h3 a3 (ztl k2 k3);refine ⟨hs.defers, _, zny k1, hs.below, envG g E, ?_⟩;have hlk : ∀ i, look (enumB arrs 0) i = arrs[i]? := fun i => (by simp [zmc]);have hlf : (St.fs ⟨[], enumB arrs 0, List.range arrs.length⟩).blk = fun i => arrs[i]? := funext hlk;have hX : OwnR w0.heap.size arrs (envG g E) = fun b => b < w0.heap.size ∨ Own (St.fs ⟨[], enumB arrs 0, List.range arrs.length⟩) (envG g E) noX b := (by funext b;simp only [OwnR, Own, noX, hlf, false_or]);rw [hX];refine ⟨hr.frsV ha.1, fun i c hi => ⟨?_, ?_⟩, fun i j b hi hj => d1.injA i j b (by rw [hlf]; exact hi) (by rw [hlf]; exact hj), fun id hm => ?_⟩
   ·exact (d1.blks i c ((hlk i).trans hi)).frsV (All.mem_map ha.2 c (oY hi))
   ·have := o4.1 c3 c (oY hi);cases c with
    |var cs =>cases this
    |mp kd m =>cases this
    |bld T e s =>cases this
    |arr sz n row =>trivial
    |nest wd cl sz n rows =>exact this
   have:=mem_iff.1 (zdh hm c2);grind
  cases h
 cases h

theorem Fn.intro{f : FuncId}{fn : Func}{args : List LV}{r : LV}{arrs : List BC}(N : Nat)(hf : P.funcs[f]? = some fn)(hb : fn.body.isSome = true)(hN : fn.ntmps = N)(hl : Nat.ble args.length N = true)(h : ∀(w0 : World) (a : Act) (w : World), H N w0 noX ⟨enumL args 0, [], []⟩ a w → W P (zic fn) (RetOk P fn w0 r arrs) (RetOk P fn w0 r arrs) [] a w) : Fn P f args r arrs := by
 intro w vals hgh hvl hv;obtain⟨c,hc⟩:=Option.isSome_iff_exists.1 hb;have hcode:zic fn=c:=by simp[zic,hc]
 refine(calls_of_wp (R := fun e w' => ∃v, e = .returned v ∧ Below w.heap.size w w' ∧ ResOk w' w.heap.size r arrs v) hf hc ?_);have hsz := oU hl;have hs : H N w noX ⟨enumL args 0, [], []⟩ { tmps := vals.toArray ++ Array.replicate (fn.ntmps - vals.toArray.size) undef, defers := [] } w := by
  refine⟨⟨fun _=>eiNil,fun _ _=>False⟩,⟨vc8,rfl,.refl _ _,fun t lv ht=>?_,fun i c hi=>by simp[St.fs,look] at hi,fun i j b hi=>by simpa[St.fs,look] using hi.ne,fun i hi=>by simp[St.fs,look] at hi,fun t lv id ht hm=>?_,fun i cells lv id hi=>by simp[St.fs,look] at hi,fun i wd cl sz n rows k id hi=>by simp[St.fs,look] at hi,fun b o hb=>(by cases hb),fun b (hb:False)=>hb.elim,fun i ei hp=>(by cases hp),fun i hi=>(by simp[St.fs,memU,o3 hi]),Nat.zero_le _,hgh,fun b (hb:False)=>hb.elim⟩⟩;all_goals (simp only[St.fs,zmb] at ht;have hlt:t<args.length:=vdi;have hget:vals[t]?=some (vals[t]' vdh):=ol vdh;have hrep:=hv t lv _ ht hget w.heap.size)
  ·have e : (vals.toArray ++ Array.replicate (fn.ntmps - vals.toArray.size) undef).getD t undef = vals[t]' vdh := (by simp [Array.getElem?_append, show t < vals.length by omega]);rw [e];refine .c _ _ (hrep.keep (oz _) (fun _ _ _ => rfl) (fun b hb => ?_) (oz _));rcases hb with hb | ⟨i, hi⟩
   ·exact .inl hb
   exact absurd rfl hi.ne
  exact absurd hm (hrep.noMent id)
 have:=h w _ w hs;rw[hcode] at this;refine wp_mono this fun e a' w' q=>?_;cases e with
 |normal =>obtain⟨q1,v,q2,q3,q4⟩:=q;exact⟨q1,v,q2,v,rfl,q3,q4⟩
 |ret =>obtain⟨q1,v,q2,q3,q4⟩:=q;exact⟨q1,v,q2,v,rfl,q3,q4⟩
 |exit id =>exact q.elim
 |goto l =>exact q.elim
 |panic ch =>exact q.elim
 |outgrown =>exact q.elim

def retLM(P : Program)(fn : Func)(n : Nat)(s : St)(g : List (Nat × Option Nat))(r : LV)(rbl : List (Nat × BC)) : Option (List Prop) :=
  match resLs P (look s.slots) (look s.blks) fn.results.toList with
  |some (l, p) =>
    let T : St := ⟨[], rbl, rbl.map (·.1)⟩
    match zjy g (fzOf (imgs g T.blks) (look s.blks)) (look s.blks) T.blks,cmp g (fzOf (imgs g T.blks) (look s.blks)) (oneOr l) r with
    |some q,some q'=>bif okT g T&&(zgj (mem T.used) r&&rbl.all fun x=>varIn (mem T.used) x.2&&Nat.blt x.1 (900000+n)) then some (p++(q++q')) else none
    |_,_=>none
  |none=>none

def zus(P : Program)(fn : Func)(n : Nat)(w0 : World)(X0 : Fr)(r : LV)(rbl : List (Nat × BC)) : AP := fun a w =>
  ∃ v E, (results fn a.tmps).run P w = .ok v w ∧ (∃ N, Sat N w0 X0 (St.fs ⟨[], rbl, rbl.map (·.1)⟩) E a w) ∧ (RepV w w0.heap.size (Own (St.fs ⟨[], rbl, rbl.map (·.1)⟩) E X0) E r v ∧ ∀ id, Ment r id → look rbl id ≠ none) ∧
    (∀i cells lv id,look rbl i=some (.var cells)→lv∈cells→Ment lv id→look rbl id≠none)∧(∀i,look rbl i≠none→i<900000+n)∧∀i wd cl sz n rows,look rbl i=some (.nest wd cl sz n rows)→cl=true

theorem zkc {α : Type} : ∀ {l : List (Nat × α)} {i : Nat}, i ∈ l.map (·.1) → look l i ≠ none
  |x :: l, i, h => by
    simp only[look]
    cases hb:Nat.beq x.1 i with
    |true=>simp
    |false =>
      rcases oS.1 h with rfl | h
      · simp_all
      · exact zkc h

theorem z43{fn : Func}{n : Nat}{s : St}(hs : H N w0 X0 s a w)(g : List (Nat × Option Nat)){r : LV}{rbl : List (Nat × BC)}{vcs : List Prop}(h : retLM P fn n s g r rbl = some vcs)(ha : All vcs) : zus P fn n w0 X0 r rbl a w := by
 obtain⟨E,hs⟩:=hs;unfold retLM at h;split at h
 ·rename_i l p h1;simp only at h;split at h
  ·rename_i q q' h2 h3;obtain ⟨hc, h⟩ := zay h;subst h;obtain ⟨a1, ha⟩ := All.append.1 ha;obtain ⟨a2, a3⟩ := All.append.1 ha;simp only [oc] at hc;obtain ⟨c1, c2, c3⟩ := hc;obtain ⟨vs, k1, k2, k3⟩ := znz hs h1 a1;obtain ⟨d1, d2, d3⟩ := z0t (T := ⟨[], rbl, rbl.map (·.1)⟩) c1 rfl h2 trivial a2 hs;have hr := zgn hs d2 d3 h3 a3 (ztl k2 k3);refine ⟨_, envG g E, zny k1, ⟨N, d1⟩, ⟨hr, fun id hm => zkc (mem_iff.1 (zdh hm c2))⟩, fun i cells lv id hi hl hm => ?_, fun i hi => ?_, fun i wd cl sz m rows hi => ztx h2 a2 (zc0 hi)⟩
   ·have := o4.1 c3 _ (zc0 hi);simp only [oc] at this;exact zkc (mem_iff.1 (zdh hm (zcz this.1 lv hl)))
   obtain⟨c,hc⟩:=oP.1 hi;have:=o4.1 c3 _ (zc0 hc);simp_all
  cases h
 cases h

theorem zfa(bl:List BC):∀i,look (enumB bl 900000) i=preB bl i:=by intro i;rw[zmc];unfold preB;simp_all

open Classical in
theorem FnM.intro{f : FuncId}{fn : Func}{args : List LV}{bl : List BC}{r : LV}{rbl : List (Nat × BC)}(N : Nat)(hf : P.funcs[f]? = some fn)(hb : fn.body.isSome = true)(hN : fn.ntmps = N)(hl : Nat.ble args.length N = true)(h : ∀(w0 : World) (X0 : Fr) (a : Act) (w : World), H N w0 X0 ⟨enumL args 0, enumB bl 900000, []⟩ a w → W P (zic fn) (zus P fn bl.length w0 X0 r rbl) (zus P fn bl.length w0 X0 r rbl) [] a w) : FnM P f args bl r rbl := by
 intro w0 w xo vals E hgh hvl hbe hxo hxg hv hbk;obtain⟨c,hc⟩:=Option.isSome_iff_exists.1 hb;have hcode:zic fn=c:=by simp[zic,hc]
 refine calls_of_wp hf hc ?_;have hsz:=oU hl
 let X0 : Fr := ⟨fun b => if b < w.heap.size ∧ ∀ i, ¬ OwnAt (preB bl) E i b then w.heap[b]? else none, xo, fun i => if preB bl i ≠ none then some (E i) else none, fun i hi => by
   unfold preB
   cases hb:Nat.ble 900000 i with
   |true=>have:=oU hb;omega
   |false=>simp,w.heap.size⟩
 have hlf : (St.fs ⟨enumL args 0, enumB bl 900000, []⟩).blk = preB bl := funext (zfa bl);have hown : ∀E', (∀b, Own (St.fs ⟨enumL args 0, enumB bl 900000, []⟩) E' X0 b → OwnB xo (preB bl) E' b) := fun E' b hb => by
  rcases hb with hb | ⟨i,hi⟩
  ·exact .inl hb
  exact .inr ⟨i,by rw[←hlf];exact hi⟩
 have hs : H N w0 X0 ⟨enumL args 0, enumB bl 900000, []⟩ { tmps := vals.toArray ++ Array.replicate (fn.ntmps - vals.toArray.size) undef, defers := [] } w := by
  refine ⟨E, ⟨by simp; omega, rfl, hbe, fun t lv ht => ?_, fun i c hi => ?_, fun i j b hi hj => ?_, fun i hi => ?_, fun t lv id ht hm => ?_, fun i cells lv id hi hl hm => ?_, fun i wd cl sz n rows k id hi hk hid => (by
    have hi':preB bl i=some (.nest wd cl sz n rows):=by rw[←zfa];exact hi
    obtain⟨ek9,hs9,_⟩:=hbk.ok i _ hi'
    exact absurd hid (hs9.cl (hbk.out i wd cl sz n rows hi') k id hk)),fun b o hb=>?_,fun b hb=>?_,fun i ei hp hi=>?_,fun i hi=>?_,oz _,hgh,hxg⟩⟩
  case refine_1 | refine_5 =>
    simp only[St.fs,zmb,Nat.zero_le,if_true,Nat.sub_zero] at ht
    have hlt : t < args.length := by
      rcases o0 t args.length with h' | h'
      · exact h'
      · rw [o7 h'] at ht;cases ht
    have hget:vals[t]?=some (vals[t]' vdh):=ol vdh
    have hrep:=hv t lv _ ht hget
    first
      | (have e : (vals.toArray ++ Array.replicate (fn.ntmps - vals.toArray.size) undef).getD t undef = vals[t]' vdh := by
          simp[Array.getElem?_append,show t<vals.length by omega]
         rw[e]
         exact hrep.1.keep (oz _) (fun _ _ _=>rfl) (fun b hb=>.inl (hown E b hb)) (fun _ _=>rfl))
      | (have h9 := hrep.2 id hm
         have : Nat.ble 900000 id = true := by
          unfold preB at h9
          cases hb:Nat.ble 900000 id with
          |true=>rfl
          |false=>rw[hb] at h9;exact absurd rfl h9
         simp[St.fs,memU,this])
  ·have hi' : preB bl i = some c := (by rw [← zfa]; exact hi);exact (hbk.ok i c hi').sub (hown E)
  ·exact hbk.inj i j b (by rw [← hlf]; exact hi) (by rw [← hlf]; exact hj)
  ·have h9 : preB bl i ≠ none := (by rw [← zfa]; exact hi);have : Nat.ble 900000 i = true := by
    unfold preB at h9;cases hb:Nat.ble 900000 i with
    |true =>rfl
    |false =>rw[hb] at h9;exact absurd rfl h9
   simp[St.fs,memU,this]
  ·have h9 := hbk.ment i cells lv id (by rw [← zfa]; exact hi) hl hm;have : Nat.ble 900000 id = true := by
    unfold preB at h9;cases hb:Nat.ble 900000 id with
    |true =>rfl
    |false =>rw[hb] at h9;exact absurd rfl h9
   simp[St.fs,memU,this]
  ·simp only [X0] at hb;split at hb
   ·rename_i hcc;exact ⟨hb, fun i hi => hcc.2 i (by rw [← hlf]; exact hi)⟩
   cases hb
  ·obtain ⟨h1, h2⟩ := hxo b hb;refine ⟨w.heap[b]'h1, ?_⟩;simp only [X0];rw [if_pos ⟨h1, h2⟩, oN h1]
  ·simp only [X0] at hp;split at hp
   ·cases hp; rfl
   cases hp
  simp[St.fs,memU,o3 hi]
 have := h w0 X0 _ w hs;rw[hcode] at this;have fin : ∀a' w', zus P fn bl.length w0 X0 r rbl a' w' → a'.defers = [] ∧ ∃v, (results fn a'.tmps).run P w' = .ok v w' ∧ ∃v' E', Ending.returned v = Ending.returned v' ∧ Below w0.heap.size w0 w' ∧ w.heap.size ≤ w'.heap.size ∧ (∀b, b < w.heap.size → (∀i, ¬OwnAt (preB bl) E i b) → w'.heap[b]? = w.heap[b]?) ∧ (∀i, 900000 ≤ i → look rbl i ≠ none → E' i = E i ∧ preB bl i ≠ none) ∧ (∀i b, OwnAt (look rbl) E' i b → w.heap.size ≤ b ∨ ∃j, OwnAt (preB bl) E j b) ∧ (RepV w' w0.heap.size (OwnB xo (look rbl) E') E' r v' ∧ ∀id, Ment r id → look rbl id ≠ none) ∧ BlksOk w' w0.heap.size xo E' (look rbl) := by
  intro a' w' ⟨v, E', q1, ⟨N', q2⟩, q3, q4, q5, q6⟩;have hO : ∀ b, OwnB xo (look rbl) E' b ↔ Own (St.fs ⟨[], rbl, rbl.map (·.1)⟩) E' X0 b := fun b => Iff.rfl;refine ⟨q2.defers, v, q1, v, E', rfl, q2.below, q2.szf, fun b hb hno => ?_, fun i h9 hi => ?_, fun i b hi => ?_, q3, q2.blks, q2.injA, q4, q6⟩
  ·have e : X0.blk b = some (w.heap[b]'hb) := (by simp only [X0];rw [if_pos ⟨hb, hno⟩, oN hb]);rw [(q2.base b _ e).1, oN hb]
  ·have hp : preB bl i ≠ none := (by have := q5 i hi;unfold preB;rw [o3 h9];simp only [oE];rw [ol vdh];simp);exact ⟨q2.pin i (E i) (by simp only [X0]; rw [if_pos hp]) hi, hp⟩
  rcases o0 b w.heap.size with hlt | hge
  ·right;by_cases hno : ∀ j, ¬ OwnAt (preB bl) E j b
   ·have e : X0.blk b = some (w.heap[b]'hlt) := (by simp only [X0];rw [if_pos ⟨hlt, hno⟩, oN hlt]);exact absurd hi ((q2.baseA b _ e).2 i)
   apply Classical.byContradiction;intro hcon;exact hno fun j hj=>hcon ⟨j,hj⟩
  exact .inl hge
 refine wp_mono this fun e a' w' q=>?_;cases e with
 |normal =>exact fin a' w' q
 |ret =>exact fin a' w' q
 |exit id =>exact q.elim
 |goto l =>exact q.elim
 |panic ch =>exact q.elim
 |outgrown =>exact q.elim
end
end Go.Lite
